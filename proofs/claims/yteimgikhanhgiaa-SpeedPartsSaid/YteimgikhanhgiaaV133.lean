/- SpeedParts is proved: for every input that can be read the law returns true, and each argument reads afterwards as it read before; nothing is asked of package variables. -/
import Derived.Shelf.Spec.SlicesGrow
import Derived.Test.YteimgikhanhgiaaV132
set_option linter.unusedSimpArgs false
set_option linter.unnecessarySimpa false
set_option linter.unusedVariables false
set_option linter.unusedSectionVars false
set_option maxRecDepth 100000
namespace Go.Lq
open Go
open Go.Proofs

theorem Chain.few {L : Int × Int} {M : List Mark} {i : Nat} {s : Int} {n : Nat} (h : Chain L M i s n) : n + i ≤ M.length := by
  induction h with
  | last hi _ => omega
  | step _ hik _ _ ih => omega
theorem tab_low {L : Int × Int} {M : List Mark} : ∀ {r k : Nat} {t : Int} {w : Way}, r ≤ M.length → tabN L M r k t = some w → M.length - r ≤ k ∧ k < M.length
  | 0, k, t, w, _, h => by cases h
  | r + 1, k, t, w, hr, h => by
    unfold tabN at h
    by_cases hk : k = M.length - 1 - r
    · omega
    · rw [if_neg hk] at h
      have := tab_low (by omega) h
      omega
theorem tab_stable {L : Int × Int} {M : List Mark} {k : Nat} {t : Int} (hk : k < M.length) : ∀ {d : Nat}, M.length - k + d ≤ M.length → tabN L M (M.length - k + d) k t = tabN L M (M.length - k) k t
  | 0, _ => rfl
  | d + 1, h => by
    have ih := tab_stable (L := L) (t := t) hk (d := d) (by omega)
    rw [← ih]
    show tabN L M (M.length - k + d + 1) k t = _
    rw [tabN, if_neg (by omega)]
noncomputable def tabK (L : Int × Int) (M : List Mark) (k : Nat) (t : Int) : Option Way := tabN L M (M.length - k) k t
noncomputable def outK (L : Int × Int) (M : List Mark) (k : Nat) (t : Int) : Way := shAll (fun a b => (tabN L M (M.length - (k + 1)) a b).map (·.1)) L M k t (M.length - (k + 1)) (k + 1) zeroW
section
variable {L : Int × Int} {M : List Mark} {k : Nat} {t : Int}
theorem tabK_last (hk : k + 1 = M.length) (h : inR M k t) : tabK L M k t = some (1, (0, 0), 0) := by
  unfold tabK
  have h' : (M.getD k (0, 0, 0)).2.1 ≤ t ∧ t ≤ (M.getD k (0, 0, 0)).2.2 := h
  rw [show M.length - k = 0 + 1 by omega, tabN, if_pos (by omega), if_pos h', if_pos rfl]
theorem tabK_mid (hk : k + 1 < M.length) (h : inR M k t) : tabK L M k t = if 0 < (outK L M k t).1 then some (outK L M k t) else none := by
  unfold tabK outK
  have h' : (M.getD k (0, 0, 0)).2.1 ≤ t ∧ t ≤ (M.getD k (0, 0, 0)).2.2 := h
  rw [show M.length - k = M.length - (k + 1) + 1 by omega, tabN, if_pos (by omega), if_pos h', if_neg (by omega)]
theorem tabK_of (hk : k < M.length) {r : Nat} (h1 : M.length - k ≤ r) (h2 : r ≤ M.length) : tabN L M r k t = tabK L M k t := by
  have := tab_stable (L := L) (t := t) hk (d := r - (M.length - k)) (by omega)
  rw [show M.length - k + (r - (M.length - k)) = r by omega] at this
  exact this
theorem tabK_spec (hk : k < M.length) : (∀ w, tabK L M k t = some w → Chain L M k t w.1 ∧ ∀ n, Chain L M k t n → w.1 ≤ n) ∧ (tabK L M k t = none → ∀ n, ¬ Chain L M k t n) := tabN_spec (by omega) (by omega) hk
theorem tab_few {r : Nat} (hr : r ≤ M.length) (h12 : M.length ≤ 12) {w : Way} (h : tabN L M r k t = some w) : w.1 ≤ 12 := by
  obtain ⟨a, b⟩ := tab_low hr h
  rw [tabK_of b (by omega) hr] at h
  have := ((tabK_spec b).1 w h).1.few
  omega
theorem tab_next (hk : k < M.length) {w : Way} (h : tabK L M k t = some w) (h1 : 1 < w.1) : ∃ a c w', k < a ∧ a < M.length ∧ inR M a c ∧ Joins L M k a t c ∧ w.2 = ((mP M a, c), a) ∧ tabK L M a c = some w' ∧ w'.1 + 1 = w.1 := by
  have hch := ((tabK_spec hk).1 w h).1
  have hin := hch.inR
  by_cases hl : k + 1 = M.length
  · rw [tabK_last hl hin] at h
    cases h
    exact absurd h1 (Nat.lt_irrefl 1)
  · rw [tabK_mid (by omega) hin] at h
    have kept := Kept.all (W := fun a b => (tabN L M (M.length - (k + 1)) a b).map (·.1)) (L := L) (M := M) (i := k) (s := t) (n := M.length - (k + 1)) (k := k + 1) (Kept.zero (z := ((0, 0), 0)))
    have kept : Kept (fun a b => (tabN L M (M.length - (k + 1)) a b).map (·.1)) L M k t (fun a b => False ∨ (k + 1 ≤ a ∧ a < k + 1 + (M.length - (k + 1)) ∧ inR M a b)) (outK L M k t) := kept
    split at h
    · rename_i h0
      cases h
      obtain ⟨a, c, hc, hj, hw, he⟩ := kept.is h0
      obtain ⟨c1, c2, c3⟩ := hc.resolve_left id
      have hw : (tabN L M (M.length - (k + 1)) a c).map (·.1) = some ((outK L M k t).1 - 1) := hw
      rw [tabK_of (by omega) (by omega) (by omega)] at hw
      cases hq : tabK L M a c with
      | none => rw [hq] at hw; cases hw
      | some q =>
        rw [hq] at hw
        have hq1 : q.1 = (outK L M k t).1 - 1 := by simpa using hw
        exact ⟨a, c, q, by omega, by omega, c3, (joinsB_iff (by omega)).1 hj, he, hq, by omega⟩
    · cases h
theorem tab_one (hk : k < M.length) {w : Way} (h : tabK L M k t = some w) (h1 : w.1 ≤ 1) : k + 1 = M.length ∧ inR M k t := by
  have hch := ((tabK_spec hk).1 w h).1
  have h0 := hch.lt.2
  have : w.1 = 1 := by omega
  rw [this] at hch
  refine ⟨?_, hch.inR⟩
  cases hch with
  | last hi _ => exact hi
  | step _ _ _ hc => exact absurd hc.lt.2 (by omega)
end
theorem mP_inj {L : Int × Int} {M : List Mark} (h : EvOk L M) {i k : Nat} (hi : i < M.length) (hk : k < M.length) (e : mP M i = mP M k) : i = k := by
  rcases Nat.lt_trichotomy i k with a | a | a
  · have := h.lt a hk; unfold mP at e; omega
  · exact a
  · have := h.lt a hi; unfold mP at e; omega

structure MapAt (L : Int × Int) (M : List Mark) (i : Nat) (t : Int) (m : Ents) : Prop where
  get : ∀ k b, k < M.length → (i < k ∨ (k = i ∧ b < t)) → inR M k b → getP m (mP M k, b) = (tabK L M k b).map wayV
  only : ∀ p, getP m p ≠ none → ∃ k b, p = (mP M k, b) ∧ k < M.length ∧ (i < k ∨ (k = i ∧ b < t)) ∧ inR M k b
section
variable {L : Int × Int} {M : List Mark} {i : Nat} {t : Int} {m : Ents}
theorem MapAt.start (hi : i + 1 = M.length) (ht : t ≤ (M.getD i (0, 0, 0)).2.1) : MapAt L M i t [] :=
  ⟨fun k b hk h hr => by
    unfold inR at hr
    rcases h with h | ⟨rfl, h⟩ <;> omega, fun p h => absurd (getP_none p) h⟩
theorem MapAt.down (h : MapAt L M (i + 1) t m) (ht : (M.getD (i + 1) (0, 0, 0)).2.2 < t) : MapAt L M i (M.getD i (0, 0, 0)).2.1 m := by
  refine ⟨fun k b hk hc hr => h.get k b hk ?_ hr, fun p hp => ?_⟩
  · unfold inR at hr
    rcases hc with hc | ⟨rfl, hc⟩
    · by_cases e : k = i + 1
      · subst e; exact .inr ⟨rfl, by omega⟩
      · exact .inl (by omega)
    · omega
  · obtain ⟨k, b, e, hk, hc, hr⟩ := h.only p hp
    exact ⟨k, b, e, hk, .inl (by omega), hr⟩
theorem MapAt.some (he : EvOk L M) (h : MapAt L M i t m) (hi : i < M.length) (hr : inR M i t) {w : Way} (hw : tabK L M i t = .some w) : MapAt L M i (t + 1) (putP (mP M i, t) (wayV w) m) := by
  refine ⟨fun k b hk hc hrb => ?_, fun p hp => ?_⟩
  · rw [getP_put]
    by_cases e : (mP M i, t) = (mP M k, b)
    · rw [if_pos e]
      have e1 := mP_inj he hi hk (Prod.mk.inj e).1
      have e2 : t = b := (Prod.mk.inj e).2
      subst e1; subst e2
      rw [hw]; rfl
    · rw [if_neg e]
      refine h.get k b hk ?_ hrb
      rcases hc with hc | ⟨rfl, hc⟩
      · exact .inl hc
      · refine .inr ⟨rfl, ?_⟩
        by_cases e2 : b = t
        · subst e2; exact absurd rfl e
        · omega
  · rw [getP_put] at hp
    by_cases e : (mP M i, t) = p
    · exact ⟨i, t, e.symm, hi, .inr ⟨rfl, by omega⟩, hr⟩
    · rw [if_neg e] at hp
      obtain ⟨k, b, e, hk, hc, hr⟩ := h.only p hp
      refine ⟨k, b, e, hk, ?_, hr⟩
      rcases hc with hc | ⟨rfl, hc⟩
      · exact .inl hc
      · exact .inr ⟨rfl, by omega⟩
theorem MapAt.none (he : EvOk L M) (h : MapAt L M i t m) (hi : i < M.length) (hw : tabK L M i t = .none) : MapAt L M i (t + 1) m := by
  refine ⟨fun k b hk hc hrb => ?_, fun p hp => ?_⟩
  · by_cases e : k = i ∧ b = t
    · obtain ⟨rfl, rfl⟩ := e
      rw [hw]
      cases hp : getP m (mP M k, b) with
      | none => rfl
      | some x =>
        obtain ⟨k', b', e, hk', hc', _⟩ := h.only _ (by rw [hp]; simp)
        have e1 := mP_inj he hk hk' (Prod.mk.inj e).1
        have e2 : b = b' := (Prod.mk.inj e).2
        omega
    · refine h.get k b hk ?_ hrb
      rcases hc with hc | ⟨rfl, hc⟩
      · exact .inl hc
      · refine .inr ⟨rfl, ?_⟩
        by_cases e2 : b = t
        · exact absurd ⟨rfl, e2⟩ e
        · omega
  · obtain ⟨k, b, e, hk, hc, hr⟩ := h.only p hp
    refine ⟨k, b, e, hk, ?_, hr⟩
    rcases hc with hc | ⟨rfl, hc⟩
    · exact .inl hc
    · exact .inr ⟨rfl, by omega⟩
theorem MapAt.any (h : MapAt L M i t m) (p : Int × Int) : ∃ o : Option Way, getP m p = o.map wayV := by
  cases hp : getP m p with
  | none => exact ⟨.none, rfl⟩
  | some x =>
    obtain ⟨k, b, rfl, hk, hc, hr⟩ := h.only p (by rw [hp]; simp)
    have := h.get k b hk hc hr
    rw [hp] at this
    exact ⟨_, this⟩
end
def BestAt (L : Int × Int) (M : List Mark) (t : Int) (best : Int × Int) : Prop :=
  (best = (0, 0) ∧ ∀ b, inR M 0 b → b < t → tabK L M 0 b = none) ∨
  ∃ b w, best = (mP M 0, b) ∧ inR M 0 b ∧ b < t ∧ tabK L M 0 b = some w ∧ ∀ b' w', inR M 0 b' → b' < t → tabK L M 0 b' = some w' → w.1 ≤ w'.1
section
variable {L : Int × Int} {M : List Mark} {t : Int} {best : Int × Int}
theorem BestAt.start (ht : t ≤ (M.getD 0 (0, 0, 0)).2.1) : BestAt L M t (0, 0) := .inl ⟨rfl, fun b hb h => by unfold inR at hb; omega⟩
theorem BestAt.skip (h : BestAt L M t best) (hw : tabK L M 0 t = none) : BestAt L M (t + 1) best := by
  rcases h with ⟨h1, h2⟩ | ⟨b, w, h1, h2, h3, h4, h5⟩
  · refine .inl ⟨h1, fun b hb h => ?_⟩
    by_cases e : b = t
    · subst e; exact hw
    · exact h2 b hb (by omega)
  · refine .inr ⟨b, w, h1, h2, by omega, h4, fun b' w' hb h hw' => ?_⟩
    by_cases e : b' = t
    · subst e; rw [hw] at hw'; cases hw'
    · exact h5 b' w' hb (by omega) hw'
end
end Go.Lq

namespace Go.Lq
open Go
open Go.Proofs

def backM (M : List Mark) : Nat → List (List Value)
  | 0 => []
  | n + 1 => [.int .i64 n, markV (M.getD n (0, 0, 0))] :: backM M n
def wideB (x : Mark) : Bool := decide (40 ≤ x.2.2 - x.2.1)
def fewE (L : Int × Int) (M : List Mark) : Int := firstErr [evErrL L M, (if 2 ≤ M.length then 0 else 10)]
def fewErr (L : Int × Int) (M : List Mark) : Int := if fewE L M ≠ 0 then fewE L M else if (idxF wideB M 0 M.length).isSome = true then 8 else 0
theorem fewE_ok {L : Int × Int} {M : List Mark} (h : fewE L M = 0) : EvOk L M ∧ 2 ≤ M.length := by
  unfold fewE at h
  by_cases h1 : evErrL L M = 0
  · refine ⟨evErr_ok h1, ?_⟩
    refine Decidable.byContradiction fun hn => ?_
    rw [h1, firstErr_z, if_neg hn, firstErr_e (by decide)] at h; cases h
  · rw [firstErr_e h1] at h; exact absurd h h1
def FewRes (L : Int × Int) (M : List Mark) (l : List (Int × Int)) (e : Int) : Prop :=
  (fewErr L M ≠ 0 ∧ e = fewErr L M ∧ l = []) ∨ (fewErr L M = 0 ∧ e = 13 ∧ l = [] ∧ ∀ s n, ¬ Chain L M 0 s n) ∨
  (fewErr L M = 0 ∧ e = 0 ∧ ∃ s, ChainL L M 0 s l ∧ ∀ s' n, Chain L M 0 s' n → l.length ≤ n)

section
variable {H : AHeap} {L : Int × Int} {M : List Mark} {v : Value}
theorem wide_c {x : Mark} (x1 : 0 ≤ x.2.1 ∧ x.2.1 ≤ 1000000000000) (x2 : 0 ≤ x.2.2 ∧ x.2.2 ≤ 1000000000000) : ACall Go.Proofs.Try.prog 101 [markV x] H fun w H' => w = .bool (wideB x) ∧ H' = H := by
  refine ACall.drop (.bool _) ?_
  (refine a101 ?_; simp only [n101, List.replicate, yq, yr, yt, yu]; first | refine q1 ?_ | refine q2 ?_ | refine q6 ?_ | refine q7 ?_ | refine qh rfl ?_ | skip)
  have g0 : (H ++ [AObj.cells true 0 (markC x)])[H.length]? = some (.cells true 0 (markC x)) := at_new
  have xG : Ext H (H ++ [AObj.cells true 0 (markC x)]) := (Ext.refl H).app _
  (repeat (first | refine yv ?_ | (apply yd; simp (disch := first|exact zz|fail) only [go_sem, box_mark]; with_reducible rfl)))
  generalize (H ++ [AObj.cells true 0 (markC x)] : AHeap) = G at g0 xG
  (repeat (first | refine yw ?_ | ((first | apply yd | apply ye); simp (disch := first|exact zz|fail) only [go_sem, load_at g0, markC]; with_reducible rfl)))
  exact fin_1 ⟨rfl, xG⟩
theorem backward_c (hv : isAtom v = true) : ACall Go.Proofs.Try.prog 103 [v] H fun v1 H' =>
    v1 = .func (.func 128) #[] #[.pointer (some ⟨H.length, 0, none⟩)] ∧ H' = H ++ [.cells true 0 [v]] := by
  have hbx : ∀ J : AHeap, boxR v J = some (.pointer (some ⟨J.length, 0, none⟩), J ++ [.cells true 0 [v]]) := fun J => by
    have e1 : v.cells.toList = [v] := by cases v <;> first | rfl | cases hv
    simp [boxR, e1, hv]
  (refine a103 ?_; simp only [n103, List.replicate, yq, yr, yt, yu]; first | refine q1 ?_ | refine q2 ?_ | refine q6 ?_ | refine q7 ?_ | refine qh rfl ?_ | skip)
  (repeat (first | refine yw ?_ | ((first | apply yd | apply ye); simp (disch := first|exact zz|fail) only [go_sem, hbx]; with_reducible rfl)))
  refine fin_1 ⟨?_, rfl⟩
  simp [go_sem]
theorem back1_c {idb : Nat} (hb : M.length ≤ 1000) : GenA Go.Proofs.Try.prog 128 [] [.pointer (some ⟨idb, 0, none⟩)] (fun H => H[idb]? = some (.cells true 0 [v]) ∧ Tris H M v) (backM M M.length) := by
  intro lp I S H hF hround hI0
  show ACall _ _ [.func (.yield lp) #[] #[], .pointer (some ⟨idb, 0, none⟩)] _ _
  obtain ⟨f1, f2⟩ := hF _ _ hI0
  (refine a128 ?_; simp only [n128, List.replicate, yq, yr, yt, yu]; first | refine q1 ?_ | refine q2 ?_ | refine q6 ?_ | refine q7 ?_ | refine qh rfl ?_ | skip)
  (repeat (first | refine yw ?_ | ((first | apply yd | apply ye); simp (disch := first|exact zz|fail) only [go_sem, f2.len, f2.idx, f2.load, load1 f1]; with_reducible rfl)))
  refine awp_loop_n [true, true, false, true, false, false, false, false, false, false, false, false, false, false, false, false, false, false, false] M.length (fun j e H' => ∃ i, i + j = M.length ∧ e = [.func (.yield lp) #[] #[], .pointer (some ⟨idb, 0, none⟩), junk, .int .i64 ((i : Int) - 1), junk, junk, junk, junk, junk, junk, junk, junk, junk, junk, junk, junk, junk, junk, junk] ∧ I (backM M i) H') ?_ ?_
  · exact ⟨M.length, by omega, by simp [forget], hI0⟩
  rintro j e H1 hj ⟨i, hij, rfl, hI⟩
  obtain ⟨f1', f2'⟩ := hF _ _ hI
  (refine yg ?_)
  refine cond_p rfl (fun hlt => ?_) (fun hge => ?_)
  rotate_left 1
  · obtain rfl : i = 0 := by omega
    (refine yg ?_)
    exact ⟨.inl rfl, undef, rfl, .inl hI⟩
  match i, hij, hI, hlt with
  | i + 1, hij, hI, _ =>
  have e1 : ((i + 1 : Nat) : Int) - 1 = (i : Int) := by omega
  rw [e1]
  have hix := f2'.idx (H' := H1) (i := (i : Int)) (k := .i64) (by omega) (by omega)
  rw [Int.toNat_natCast] at hix
  have hm0 := (f2'.load (Ext.refl H1) (i := i) (by omega)).1
  (repeat (first | refine yw ?_ | ((first | apply yd | apply ye); simp (disch := first|exact zz|fail) only [go_sem, load1 f1', hix, hm0]; with_reducible rfl)))
  refine aops_call ((hround _ _ _ hI).mono fun w H3 h => ?_)
  rcases h with ⟨rfl, hI3⟩ | ⟨rfl, hS⟩
  · (refine yg ?_)
    refine cond_f rfl ?_
    (refine yg ?_)
    exact ⟨by omega, i, by omega, by simp [forget], hI3⟩
  · (refine yg ?_)
    refine cond_t rfl ?_
    (refine yg ?_)
    exact ⟨.inr rfl, undef, rfl, .inr hS⟩
end
end Go.Lq

namespace Go.Lq
open Go
open Go.Proofs

theorem isAtom_map (x : Option Nat) : isAtom (.map x) = true := rfl
theorem constOk_mapN : constOk (.map none) = true := rfl
attribute [go_sem] isAtom_map constOk_mapN
theorem store_newI {H : AHeap} {n : Int} {x : Value} {e : Nat} : storeR 1 (.pointer (some ⟨H.length, 0, none⟩)) (.int .i64 n) (H ++ [.cells true e [x]]) = some (undef, H ++ [.cells true e [.int .i64 n]]) :=
  (store_b1 (at_new (H := H) (o := true) (e := e) (vs := [x])) rfl rfl).trans (by rw [List.set_append_right _ _ (Nat.le_refl _), Nat.sub_self]; rfl)
theorem store_newM {H : AHeap} {id : Nat} {x : Value} {e : Nat} : storeR 1 (.pointer (some ⟨H.length, 0, none⟩)) (.map (some id)) (H ++ [.cells true e [x]]) = some (undef, H ++ [.cells true e [.map (some id)]]) :=
  (store_b1 (at_new (H := H) (o := true) (e := e) (vs := [x])) rfl rfl).trans (by rw [List.set_append_right _ _ (Nat.le_refl _), Nat.sub_self]; rfl)
theorem store_newA {H : AHeap} {w x : Value} {e : Nat} (hw : isAtom w = true) : storeR 1 (.pointer (some ⟨H.length, 0, none⟩)) (.agg ⟨[w]⟩) (H ++ [.cells true e [x]]) = some (undef, H ++ [.cells true e [w]]) := store_newN (by simp [hw]) rfl rfl

structure FewIds (h0 a4 a7 idm a8 a9 idb base : Nat) : Prop where
  o1 : h0 + 1 < a4
  o2 : a4 < a7
  o3 : a7 < idm
  o4 : idm < a8
  o5 : a8 < a9
  o6 : a9 < idb
  o7 : idb < base
structure FewSt (H0 : AHeap) (a4 a7 idm a8 a9 idb : Nat) (L : Int × Int) (M : List Mark) (v : Value) (m : Ents) (best : Int × Int) (H : AHeap) : Prop where
  ext : Ext H0 H
  b1 : H[H0.length]? = some (.cells true 0 (evC L v))
  b2 : H[H0.length + 1]? = some (.cells true 0 [.slice none 0 0])
  b4 : H[a4]? = some (.cells true 0 (evC L v))
  b7 : H[a7]? = some (.cells true 0 [.int .i64 ((M.length : Int) - 1)])
  mp : H[idm]? = some (.map (entsP m))
  b8 : H[a8]? = some (.cells true 0 [.map (some idm)])
  b9 : H[a9]? = some (.cells true 0 [.int .i64 best.1, .int .i64 best.2])
  bb : H[idb]? = some (.cells true 0 [v])
section
variable {H0 H : AHeap} {a4 a7 idm a8 a9 idb base : Nat} {L : Int × Int} {M : List Mark} {v : Value} {m m' : Ents} {best best' : Int × Int}
theorem FewSt.app (h : FewSt H0 a4 a7 idm a8 a9 idb L M v m best H) (N : AHeap) : FewSt H0 a4 a7 idm a8 a9 idb L M v m best (H ++ N) :=
  ⟨h.ext.app N, at_app h.b1, at_app h.b2, at_app h.b4, at_app h.b7, at_app h.mp, at_app h.b8, at_app h.b9, at_app h.bb⟩
theorem FewSt.set (h : FewSt H0 a4 a7 idm a8 a9 idb L M v m best H) (o : FewIds H0.length a4 a7 idm a8 a9 idb base) {j : Nat} (hj : base ≤ j) (c : AObj) : FewSt H0 a4 a7 idm a8 a9 idb L M v m best (H.set j c) := by
  obtain ⟨o1, o2, o3, o4, o5, o6, o7⟩ := o
  obtain ⟨x, b1, b2, b4, b7, mp, b8, b9, bb⟩ := h
  refine ⟨x.set (by omega) _, ?_, ?_, ?_, ?_, ?_, ?_, ?_, ?_⟩ <;> rw [List.getElem?_set_ne (by omega)] <;> assumption
theorem FewSt.put (h : FewSt H0 a4 a7 idm a8 a9 idb L M v m best H) (o : FewIds H0.length a4 a7 idm a8 a9 idb base) (m' : Ents) : FewSt H0 a4 a7 idm a8 a9 idb L M v m' best (H.set idm (.map (entsP m'))) := by
  obtain ⟨o1, o2, o3, o4, o5, o6, o7⟩ := o
  obtain ⟨x, b1, b2, b4, b7, mp, b8, b9, bb⟩ := h
  refine ⟨x.set (by omega) _, ?_, ?_, ?_, ?_, get_set_self mp, ?_, ?_, ?_⟩ <;> rw [List.getElem?_set_ne (by omega)] <;> assumption
theorem FewSt.setBest (h : FewSt H0 a4 a7 idm a8 a9 idb L M v m best H) (o : FewIds H0.length a4 a7 idm a8 a9 idb base) (best' : Int × Int) : FewSt H0 a4 a7 idm a8 a9 idb L M v m best' (H.set a9 (.cells true 0 [.int .i64 best'.1, .int .i64 best'.2])) := by
  obtain ⟨o1, o2, o3, o4, o5, o6, o7⟩ := o
  obtain ⟨x, b1, b2, b4, b7, mp, b8, b9, bb⟩ := h
  refine ⟨x.set (by omega) _, ?_, ?_, ?_, ?_, ?_, ?_, get_set_self b9, ?_⟩ <;> rw [List.getElem?_set_ne (by omega)] <;> assumption
end
def TabJ (L : Int × Int) (M : List Mark) (i : Nat) (m : Ents) (best : Int × Int) : Prop :=
  (i = 0 → MapAt L M 0 ((M.getD 0 (0, 0, 0)).2.2 + 1) m ∧ BestAt L M ((M.getD 0 (0, 0, 0)).2.2 + 1) best) ∧ (0 < i → MapAt L M (i - 1) (M.getD (i - 1) (0, 0, 0)).2.1 m ∧ best = (0, 0))
def TabI (L : Int × Int) (M : List Mark) (k : Nat) (t : Int) (m : Ents) (best : Int × Int) : Prop :=
  MapAt L M k t m ∧ (k = 0 → BestAt L M t best) ∧ (k ≠ 0 → best = (0, 0))
section
variable {L : Int × Int} {M : List Mark} {m : Ents} {best : Int × Int} {k : Nat} {t : Int}
theorem TabJ.open (h : TabJ L M (k + 1) m best) : TabI L M k (M.getD k (0, 0, 0)).2.1 m best := by
  obtain ⟨a, b⟩ := h.2 (Nat.succ_pos _)
  rw [Nat.add_sub_cancel] at a
  refine ⟨a, fun hk => ?_, fun _ => b⟩
  subst hk; rw [b]; exact BestAt.start (Int.le_refl _)
theorem TabI.close (h : TabI L M k ((M.getD k (0, 0, 0)).2.2 + 1) m best) : TabJ L M k m best := by
  obtain ⟨a, b, c⟩ := h
  refine ⟨fun hk => ?_, fun hk => ?_⟩
  · subst hk; exact ⟨a, b rfl⟩
  · match k, hk with
    | k + 1, _ =>
      rw [Nat.add_sub_cancel]
      exact ⟨a.down (by omega), c (by omega)⟩
theorem TabI.skip (he : EvOk L M) (hk : k < M.length) (h : TabI L M k t m best) (hw : tabK L M k t = none) : TabI L M k (t + 1) m best :=
  ⟨h.1.none he hk hw, fun h0 => by subst h0; exact (h.2.1 rfl).skip hw, h.2.2⟩
theorem TabI.other (he : EvOk L M) (hk : k < M.length) (hr : inR M k t) (h : TabI L M k t m best) {w : Way} (hw : tabK L M k t = some w) (h0 : k ≠ 0) : TabI L M k (t + 1) (putP (mP M k, t) (wayV w) m) best :=
  ⟨h.1.some he hk hr hw, fun h => absurd h h0, h.2.2⟩
theorem TabI.first (he : EvOk L M) (h1 : 0 < M.length) (hr : inR M 0 t) (h : TabI L M 0 t m best) {w : Way} (hw : tabK L M 0 t = some w) :
    ∃ o : Option Way, getP (putP (mP M 0, t) (wayV w) m) best = o.map wayV ∧ ((o = none ∧ TabI L M 0 (t + 1) (putP (mP M 0, t) (wayV w) m) (mP M 0, t)) ∨
      ∃ u : Way, o = some u ∧ best.1 = mP M 0 ∧ (w.1 < u.1 → TabI L M 0 (t + 1) (putP (mP M 0, t) (wayV w) m) (mP M 0, t)) ∧ (¬ w.1 < u.1 → TabI L M 0 (t + 1) (putP (mP M 0, t) (wayV w) m) best)) := by
  have hm := h.1.some he h1 hr hw
  rcases h.2.1 rfl with ⟨e1, e2⟩ | ⟨b, u, e1, e2, e3, e4, e5⟩
  · rw [e1, getP_put]
    have hnew : BestAt L M (t + 1) (mP M 0, t) := .inr ⟨t, w, rfl, hr, by omega, hw, fun b' w' hb hlt hw' => by
      by_cases e : b' = t
      · subst e; rw [hw] at hw'; cases hw'; exact Nat.le_refl _
      · rw [e2 b' hb (by omega)] at hw'; cases hw'⟩
    by_cases e : (mP M 0, t) = (0, 0)
    · rw [if_pos e]
      refine ⟨some w, rfl, .inr ⟨w, rfl, (Prod.mk.inj e).1.symm, fun hlt => absurd hlt (Nat.lt_irrefl _), fun _ => ⟨hm, fun _ => ?_, fun h => absurd rfl h⟩⟩⟩
      rw [← e]; exact hnew
    · rw [if_neg e]
      refine ⟨none, ?_, .inl ⟨rfl, hm, fun _ => hnew, fun h => absurd rfl h⟩⟩
      cases hp : getP m (0, 0) with
      | none => rfl
      | some x =>
        obtain ⟨k', b, e3, hk', hc, hrb⟩ := h.1.only (0, 0) (by rw [hp]; simp)
        have hb1 : (0 : Int) = mP M k' := (Prod.mk.inj e3).1
        have p0 := he.pos 0 h1
        rcases hc with hc | ⟨rfl, hc⟩
        · have := he.lt hc hk'
          unfold mP at hb1; omega
        · have := h.1.get 0 b h1 (.inr ⟨rfl, hc⟩) hrb
          rw [← e3, hp, e2 b hrb hc] at this; cases this
  · subst e1
    have hne : ¬ (mP M 0, t) = (mP M 0, b) := fun h => by have := (Prod.mk.inj h).2; omega
    refine ⟨some u, ?_, .inr ⟨u, rfl, rfl, fun hlt => ⟨hm, fun _ => .inr ⟨t, w, rfl, hr, by omega, hw, fun b' w' hb hlt' hw' => ?_⟩, fun h => absurd rfl h⟩, fun hge => ⟨hm, fun _ => .inr ⟨b, u, rfl, e2, by omega, e4, fun b' w' hb hlt' hw' => ?_⟩, fun h => absurd rfl h⟩⟩⟩
    · rw [getP_put, if_neg hne, h.1.get 0 b h1 (.inr ⟨rfl, e3⟩) e2, e4]
    · by_cases e : b' = t
      · subst e; rw [hw] at hw'; cases hw'; exact Nat.le_refl _
      · have := e5 b' w' hb (by omega) hw'; omega
    · by_cases e : b' = t
      · subst e; rw [hw] at hw'; cases hw'; omega
      · exact e5 b' w' hb (by omega) hw'
end

end Go.Lq

namespace Go.Lq
open Go
open Go.Proofs

theorem pairs_nil (H : AHeap) : Pairs H [] (.slice none 0 0) := (OwnP.nil H H).pairs
theorem fin_l2a {c : RCode} {n a b : Nat} {R : Value → AHeap → Prop} {e : Env} {H : AHeap} {id : Nat} {s : Value} (hp : e.getD a undef = .pointer (some ⟨id, 0, none⟩)) (h1 : H[id]? = some (.cells true 0 [s])) (h : R (.tuple #[.agg ⟨[s]⟩, e.getD b undef]) H) :
    Fin ⟨c, n, [.loadN 1 a, .tmp b]⟩ R .ret e H := fin_l2 (u := .agg ⟨[s]⟩) (by rw [hp]; exact n1_at h1) h
theorem store_a1 {H : AHeap} {id e : Nat} {x y : Value} (h : H[id]? = some (.cells true e [x])) (ha : isAtom y = true) : storeR 1 (.pointer (some ⟨id, 0, none⟩)) (.agg ⟨[y]⟩) H = some (undef, H.set id (.cells true e [y])) := store_all h rfl (by simp [ha]) rfl
theorem pushP_at {H : AHeap} {v : Value} {l : List (Int × Int)} {x : Int × Int} {i : Nat} {c : AObj} (h : H[i]? = some c) (hv : v = .slice none 0 0 ∨ idOf v ≠ i) : (pushPH H v l x)[i]? = some c := by
  have hi := (List.getElem?_eq_some_iff.1 h).1
  unfold pushPH
  rw [appH_at (by simp; omega) hv, List.getElem?_append_left hi]; exact h
theorem pushP_len {H : AHeap} {v : Value} {l : List (Int × Int)} {x : Int × Int} : (pushPH H v l x).length = H.length + 2 := by unfold pushPH; rw [appH_len]; simp
theorem OwnP.aside {H0 H : AHeap} {l : List (Int × Int)} {v : Value} (h : OwnP H0 H l v) {j : Nat} (hj : j < H0.length) : v = .slice none 0 0 ∨ idOf v ≠ j := by
  rcases h.2 with ⟨rfl, h0⟩ | ⟨id, rfl, h1, _, _⟩
  · exact .inl rfl
  · exact .inr (by show id ≠ j; omega)
theorem OwnP.set_ne {H0 H : AHeap} {l : List (Int × Int)} {v : Value} (h : OwnP H0 H l v) {j : Nat} (hj : v = .slice none 0 0 ∨ idOf v ≠ j) (c : AObj) : OwnP H0 (H.set j c) l v := by
  refine Own.set_ne h ?_ c
  rcases hj with rfl | hj
  · rcases h.2 with ⟨_, h0⟩ | ⟨id, e, _⟩
    · exact .inl h0
    · cases e
  · exact .inr hj
theorem OwnP.pushedL {H0 H : AHeap} {l : List (Int × Int)} {v : Value} (h : OwnP H0 H l v) (hx : H0.length ≤ H.length) (x : Int × Int) : OwnP H0 (pushPH H v l x) (l ++ [x]) (pushV H l.length) := by
  have := Own.appended (h.app [.cells true 2 [.int .i64 x.1, .int .i64 x.2]]) (m := 1) (cs := [.int .i64 x.1, .int .i64 x.2]) rfl (by omega) (by simp; omega)
  unfold OwnP
  simpa [pushV, pushPH, flatP] using this
theorem FewSt.push {H0 H F : AHeap} {a4 a7 idm a8 a9 idb base : Nat} {L : Int × Int} {M : List Mark} {v sv : Value} {m : Ents} {best : Int × Int} {l : List (Int × Int)} (h : FewSt H0 a4 a7 idm a8 a9 idb L M v m best H) (o : FewIds H0.length a4 a7 idm a8 a9 idb base)
    (ho : OwnP F H l sv) (hF : base ≤ F.length) (x : Int × Int) : FewSt H0 a4 a7 idm a8 a9 idb L M v m best (pushPH H sv l x) := by
  obtain ⟨o1, o2, o3, o4, o5, o6, o7⟩ := o
  obtain ⟨y, b1, b2, b4, b7, mp, b8, b9, bb⟩ := h
  have hw : OwnP H0 H l sv := ho.weaken (by omega)
  exact ⟨OwnP.ext hw y x, pushP_at b1 (ho.aside (by omega)), pushP_at b2 (ho.aside (by omega)), pushP_at b4 (ho.aside (by omega)), pushP_at b7 (ho.aside (by omega)), pushP_at mp (ho.aside (by omega)), pushP_at b8 (ho.aside (by omega)), pushP_at b9 (ho.aside (by omega)), pushP_at bb (ho.aside (by omega))⟩
theorem load_way2 {G : AHeap} {id : Nat} {w : Way} (h : G[id]? = some (.cells true 0 (wayC w))) : loadNR 2 (.pointer (some ⟨id, 1, none⟩)) G = some (.agg ⟨[.int .i64 w.2.1.1, .int .i64 w.2.1.2]⟩, G) := loadN_at h (by simp [wayC])
theorem fill_pair {a b : Int} : fillA [.int .i64 0, .int .i64 0] [(0, 2, .agg ⟨[.int .i64 a, .int .i64 b]⟩)] = some [.int .i64 a, .int .i64 b] := rfl
theorem none_chain {L : Int × Int} {M : List Mark} (h0 : 0 < M.length) (h : ∀ b, inR M 0 b → b < (M.getD 0 (0, 0, 0)).2.2 + 1 → tabK L M 0 b = none) (s : Int) (n : Nat) : ¬ Chain L M 0 s n := fun hc => by
  have hr := hc.inR
  exact (tabK_spec h0).2 (h s hr (by unfold inR at hr; omega)) n hc
theorem first_min {L : Int × Int} {M : List Mark} (h0 : 0 < M.length) {w : Way} (h : ∀ b' w', inR M 0 b' → b' < (M.getD 0 (0, 0, 0)).2.2 + 1 → tabK L M 0 b' = some w' → w.1 ≤ w'.1) (s : Int) (n : Nat) (hc : Chain L M 0 s n) : w.1 ≤ n := by
  have hr := hc.inR
  cases hw : tabK L M 0 s with
  | none => exact absurd hc ((tabK_spec h0).2 hw n)
  | some w' =>
    have a := h s w' hr (by unfold inR at hr; omega) hw
    have b := ((tabK_spec h0).1 w' hw).2 n hc
    omega
section
variable {H : AHeap} {L : Int × Int} {M : List Mark} {v : Value}
set_option maxHeartbeats 32000000 in
set_option maxRecDepth 100000 in
theorem fewest_c (hl : Tris H M v) (hb : M.length ≤ 1000000000) : ACall Go.Proofs.Try.prog 43 [evV L v] H fun w H' => Ext H H' ∧ ∃ s l e, w = .tuple #[.agg ⟨[s]⟩, .int .i64 e] ∧ Pairs H' l s ∧ FewRes L M l e := by
  (refine a43 ?_; simp only [n43, List.replicate, yq, yr, yt, yu]; first | refine Go.Lq.q1 ?_ | refine Go.Lq.q2 ?_ | refine Go.Lq.q6 ?_ | refine Go.Lq.q7 ?_ | refine Go.Lq.qh rfl ?_ | skip)
  obtain ⟨G, hG⟩ : ∃ G, G = H ++ [AObj.cells true 0 (evC L v)] ++ [AObj.cells true 0 [.slice none 0 0]] := ⟨_, rfl⟩
  have g0 : G[H.length]? = some (.cells true 0 (evC L v)) := by rw [hG]; simp
  have g1 : G[H.length + 1]? = some (.cells true 0 [.slice none 0 0]) := by rw [hG]; simp
  have xG : Ext H G := by rw [hG]; exact ((Ext.refl H).app _).app _
  have lG : G.length = H.length + 2 := by rw [hG]; simp
  (repeat (first | refine yv ?_ | (apply yd; simp (disch := first|exact zz|fail) only [go_sem, box_ev hl.atom]; with_reducible rfl)))
  (simp only [List.length_append, List.length_cons, List.length_nil, Nat.zero_add, Nat.add_assoc, Nat.reduceAdd])
  rw [← hG]
  clear hG
  (repeat (first | refine yw ?_ | ((first | apply yd | apply ye); simp (disch := first|exact zz|fail) only [go_sem, load_ev g0]; with_reducible rfl)))
  refine aops_call ((open_c (hl.ext xG) hb).mono fun w G2 ⟨hw, x2⟩ => ?_)
  subst hw
  have l2 := x2.len
  have hst : storeR 3 (.pointer (some ⟨G2.length, 0, none⟩)) (evV L v) (G2 ++ [.cells true 0 [.int .i64 0, .int .i64 0, .slice none 0 0]]) = some (undef, G2 ++ [.cells true 0 (evC L v)]) := store_newN (by simp [hl.atom, isAtom_int]) rfl rfl
  (repeat (first | refine yw ?_ | ((first | apply yd | apply ye); simp (disch := first|exact zz|fail) only [go_sem, hst]; with_reducible rfl)))
  have k4 : (G2 ++ [AObj.cells true 0 (evC L v)])[G2.length]? = some (.cells true 0 (evC L v)) := at_new
  have x3 := x2.app [AObj.cells true 0 (evC L v)]
  obtain ⟨a4, ha4⟩ : ∃ a4, G2.length = a4 := ⟨_, rfl⟩
  have l3 : (G2 ++ [AObj.cells true 0 (evC L v)]).length = a4 + 1 := by simp [ha4]
  rw [ha4] at k4 l2 ⊢
  generalize (G2 ++ [AObj.cells true 0 (evC L v)] : AHeap) = G3 at k4 x3 l3
  have xH3 := xG.trans x3
  have hl3 := hl.ext xH3
  have k0 := x3.cell g0
  have k1 := x3.cell g1
  clear hst
  (repeat (first | refine yw ?_ | ((first | apply yd | apply ye); simp (disch := first|exact zz|fail) only [go_sem, hl3.len, hl3.idx, hl3.load, load_at k0, evC]; with_reducible rfl)))
  (refine aops_call_to (sunless_c _ _) ?_)
  (refine yg ?_)
  (refine aops_call_to (sfirst_c (l := [_, _]) (Ints.last (l := [_, _]) 2) (by simp)) ?_)
  have e1 : firstErr [evErrL L M, (if decide ((2 : Int) ≤ (M.length : Int)) = true then 0 else 10)] = fewE L M := by
    unfold fewE
    have e0 : ((2 : Int) ≤ (M.length : Int)) = (2 ≤ M.length) := by simp; omega
    simp only [decide_eq_true_eq, e0]
  rw [e1]
  have x4 := x3.app [AObj.cells true 1 [.int .i64 (evErrL L M), .int .i64 (if decide ((2 : Int) ≤ (M.length : Int)) = true then 0 else 10)]]
  have k4 := at_app (N := [AObj.cells true 1 [.int .i64 (evErrL L M), .int .i64 (if decide ((2 : Int) ≤ (M.length : Int)) = true then 0 else 10)]]) k4
  have l4 : (G3 ++ [AObj.cells true 1 [.int .i64 (evErrL L M), .int .i64 (if decide ((2 : Int) ≤ (M.length : Int)) = true then 0 else 10)]]).length = a4 + 2 := by simp [l3]
  generalize (G3 ++ [AObj.cells true 1 [.int .i64 (evErrL L M), .int .i64 (if decide ((2 : Int) ≤ (M.length : Int)) = true then 0 else 10)]] : AHeap) = G4 at x4 k4 l4
  have xH4 := xG.trans x4
  have hl4 := hl.ext xH4
  have k0 := x4.cell g0
  have k1 := x4.cell g1
  by_cases hfe : fewE L M = 0
  rotate_left 1
  · have ee : fewErr L M = fewE L M := by unfold fewErr; rw [if_pos hfe]
    (repeat (first | refine yw ?_ | ((first | apply yd | apply ye); simp (disch := first|exact zz|fail) only [go_sem, dec_f hfe]; with_reducible rfl)))
    refine cond_f rfl ?_
    (repeat (first | refine yw ?_ | ((first | apply yd | apply ye); simp (disch := first|exact zz|fail) only [go_sem, dec_t (show fewE L M ≠ 0 from hfe)]; with_reducible rfl)))
    refine cond_t rfl ?_
    (repeat (first | refine yw ?_ | ((first | apply yd | apply ye); simp (disch := first|exact zz|fail) only [go_sem, fill_none, store_a1 (y := .slice none 0 0) k1 rfl]; with_reducible rfl)))
    exact fin_l2a rfl (get_set_self k1) ⟨xH4.set (by omega) _, _, [], _, rfl, pairs_nil _, .inl ⟨by rw [ee]; exact hfe, ee.symm, rfl⟩⟩
  obtain ⟨hk, h2⟩ := fewE_ok hfe
  have hlen := hk.len
  have hcw := containsM_c (H := G4) (g := 101) (ys := []) (p := wideB) hl4 hb (fun j J hj _ => wide_c (hk.t1 j hj) (hk.t2 j hj))
  (repeat (first | refine yw ?_ | ((first | apply yd | apply ye); simp (disch := first|exact zz|fail) only [go_sem, hl4.len, hl4.idx, hl4.load, load_at k0, evC, dec_t hfe]; with_reducible rfl)))
  (refine aops_call_to (hcw) ?_)
  cases hwd : (idxF wideB M 0 M.length).isSome with
  | true =>
    have ee : fewErr L M = 8 := by unfold fewErr; rw [if_neg (by rw [hfe]; decide), if_pos hwd]
    (refine yg ?_)
    refine cond_t rfl ?_
    (refine yg ?_)
    refine cond_t rfl ?_
    (repeat (first | refine yw ?_ | ((first | apply yd | apply ye); simp (disch := first|exact zz|fail) only [go_sem, fill_none, store_a1 (y := .slice none 0 0) k1 rfl]; with_reducible rfl)))
    exact fin_l2a rfl (get_set_self k1) ⟨xH4.set (by omega) _, _, [], _, rfl, pairs_nil _, .inl ⟨by rw [ee]; decide, ee.symm, rfl⟩⟩
  | false =>
  have ee : fewErr L M = 0 := by unfold fewErr; rw [if_neg (by rw [hfe]; decide), if_neg (by rw [hwd]; simp)]
  (refine yg ?_)
  refine cond_f rfl ?_
  (repeat (first | refine yw ?_ | ((first | apply yd | apply ye); simp (disch := first|exact zz|fail) only [go_sem, hfe]; with_reducible rfl)))
  refine cond_f rfl ?_
  obtain ⟨B, hB⟩ : ∃ B, B = G4 ++ [AObj.cells true 0 [.int .i64 ((M.length : Int) - 1)]] ++ [AObj.map []] ++ [AObj.cells true 0 [.map (some (a4 + 3))]] ++ [AObj.cells true 0 [.int .i64 0, .int .i64 0]] := ⟨_, rfl⟩
  have hgB : ∀ (i : Nat) (c : AObj), G4[i]? = some c → B[i]? = some c := fun i c h => by rw [hB]; exact at_app (at_app (at_app (at_app h)))
  have xB : Ext H B := by rw [hB]; exact (((xH4.app _).app _).app _).app _
  have lB : B.length = a4 + 6 := by rw [hB]; simp [l4]
  have n0 : B[a4 + 2]? = some (.cells true 0 [.int .i64 ((M.length : Int) - 1)]) := by rw [hB, ← l4]; simp
  have n1 : B[a4 + 3]? = some (.map []) := by rw [hB, show a4 + 3 = G4.length + 1 by omega]; simp
  have n2 : B[a4 + 4]? = some (.cells true 0 [.map (some (a4 + 3))]) := by rw [hB, show a4 + 4 = G4.length + 2 by omega]; simp
  have n3 : B[a4 + 5]? = some (.cells true 0 [.int .i64 0, .int .i64 0]) := by rw [hB, show a4 + 5 = G4.length + 3 by omega]; simp
  have b0 := hgB _ _ k0
  have b1 := hgB _ _ k1
  have b4 := hgB _ _ k4
  (repeat (first | refine yv ?_ | (apply yd; simp (disch := first|exact zz|fail) only [go_sem, hl4.len, hl4.idx, hl4.load, load_at k0, evC, store_newI, store_newM]; with_reducible rfl)))
  (simp only [List.length_append, List.length_cons, List.length_nil, Nat.zero_add, Nat.add_assoc, Nat.reduceAdd])
  rw [l4]
  simp only [Nat.add_assoc, Nat.reduceAdd]
  rw [← hB]
  clear hB hgB
  have hlB := hl.ext xB
  (repeat (first | refine yw ?_ | ((first | apply yd | apply ye); simp (disch := first|exact zz|fail) only [go_sem, load_at b0, evC]; with_reducible rfl)))
  refine aops_call ((backward_c (H := B) hl.atom).mono fun w G5 ⟨hw, hG5⟩ => ?_)
  subst hw
  have x5 : Ext B G5 := by rw [hG5]; exact (Ext.refl B).app _
  have c5 : G5[a4 + 6]? = some (.cells true 0 [v]) := by rw [hG5, ← lB]; exact at_new
  have l5 : G5.length = a4 + 7 := by rw [hG5]; simp [lB]
  rw [lB]
  clear hG5
  have o : FewIds H.length a4 (a4 + 2) (a4 + 3) (a4 + 4) (a4 + 5) (a4 + 6) (a4 + 7) := ⟨by omega, by omega, by omega, by omega, by omega, by omega, by omega⟩
  have hS5 : FewSt H a4 (a4 + 2) (a4 + 3) (a4 + 4) (a4 + 5) (a4 + 6) L M v [] (0, 0) G5 := ⟨xB.trans x5, x5.cell b0, x5.cell b1, x5.cell b4, x5.cell n0, x5.cell n1, x5.cell n2, x5.cell n3, c5⟩
  refine yx ?_
  refine awp_rangeA mo rfl (fun l h => by cases h) (back1_c (idb := a4 + 6) (M := M) (v := v) (by omega))
    (fun rest H' => ∃ i m best, rest = backM M i ∧ i ≤ M.length ∧ TabJ L M i m best ∧ FewSt H a4 (a4 + 2) (a4 + 3) (a4 + 4) (a4 + 5) (a4 + 6) L M v m best H')
    (fun _ _ => False) ?_ ?_ ?_ ?_ ?_ ?_ ?_
  · rintro rest H' c ⟨i, m, best, h1, h2, h3, h4⟩
    exact ⟨i, m, best, h1, h2, h3, h4.set o (by omega) _⟩
  · rintro x H' c h
    exact h.elim
  · rintro rest H' ⟨i, m, best, h1, h2, h3, h4⟩
    exact ⟨h4.bb, hl.ext h4.ext⟩
  · intro N
    exact ⟨M.length, [], (0, 0), rfl, Nat.le_refl _, ⟨fun h => by omega, fun h => ⟨MapAt.start (by omega) (Int.le_refl _), rfl⟩⟩, hS5.app N⟩
  · rintro a rest H1 ⟨i, m, best, h1, h2i, h3, h4⟩ hlt
    match i, h1 with
    | k + 1, h1 =>
    obtain ⟨rfl, rfl⟩ := List.cons.inj h1
    have hkl : k < M.length := by omega
    have h3 := h3.open
    obtain ⟨x, hx⟩ : ∃ x, M.getD k (0, 0, 0) = x := ⟨_, rfl⟩
    have t1 := hk.t1 k hkl
    have t2 := hk.t2 k hkl
    have t3 := hk.lohi k hkl
    have px := hk.pos k hkl
    have emp : mP M k = x.1 := by unfold mP; rw [hx]
    obtain ⟨n, hn⟩ : ∃ n, widthN M k = n := ⟨_, rfl⟩
    have hnx : (n : Int) = x.2.2 - x.2.1 + 1 := by rw [← hn, ← hx]; unfold widthN; rw [hx] at t3 ⊢; omega
    rw [hx] at t1 t2 t3 px h3 ⊢
    refine ⟨rfl, fun R Rb _ hR => ?_⟩
    simp only [assignParams, List.zip_cons_cons, List.zip_nil_left, List.foldl_cons, List.foldl_nil]
    have hstm : storeR 3 (.pointer (some ⟨H1.length, 0, none⟩)) (markV x) (H1 ++ [.cells true 0 [.int .i64 0, .int .i64 0, .int .i64 0]]) = some (undef, H1 ++ [.cells true 0 (markC x)]) := store_new3
    (repeat (first | refine yw ?_ | ((first | apply yd | apply ye); simp (disch := first|exact zz|fail) only [go_sem, hstm]; with_reducible rfl)))
    refine ⟨rfl, at_app hR, ?_⟩
    have hS := (h4.app [AObj.cells true 0 (markC x)]).set o (j := G5.length) (by omega) Rb
    have hRb : ((H1 ++ [AObj.cells true 0 (markC x)]).set G5.length Rb)[G5.length]? = some Rb := get_set_self (at_app hR)
    have c11 : ((H1 ++ [AObj.cells true 0 (markC x)]).set G5.length Rb)[H1.length]? = some (.cells true 0 (markC x)) := by rw [List.getElem?_set_ne (by omega)]; exact at_new
    obtain ⟨i11, h11⟩ : ∃ i11, H1.length = i11 := ⟨_, rfl⟩
    rw [h11] at c11 hlt ⊢
    generalize ((H1 ++ [AObj.cells true 0 (markC x)]).set G5.length Rb : AHeap) = Hb at hS hRb c11
    clear h4 hR hstm
    (repeat (first | refine yw ?_ | ((first | apply yd | apply ye); simp (disch := first|exact zz|fail) only [go_sem, load_at c11, markC]; with_reducible rfl)))
    refine awp_loop_n [false, true, true, false, true, false, false, true, true, true, true, true, true, false, false, false, false, false, false, false, false, false, false, false, false, false, false, false, false, false, false, false, false, false, false, false, false, false, false, false, false, false, false, false, false, false, false, false, false, false, false, false, false, false, false, false, false, false, false, false, false, false, false, false, false, false, false, false, false, false, false, false, false, false, false, false, false, false, false, false, false, false, false, false, false, false, false, false, false, false, false, false, false, false, false, false, false, false, false, false, false, false, false, false, false, false, false, false, false, false, false, false, false, false, false, false, false, false, false, false, false, false, false, false, false, false, false, false, false, false, false, false, false, false, false, false, false, false, false, false, false, false, false, false, false, false, false, false, false, false, false, false] n (fun q e H' => ∃ m best, e = [junk, .pointer (some ⟨H.length, 0, none⟩), .pointer (some ⟨H.length + 1, 0, none⟩), junk, .pointer (some ⟨a4, 0, none⟩), junk, junk, .pointer (some ⟨a4 + 2, 0, none⟩), .pointer (some ⟨a4 + 4, 0, none⟩), .pointer (some ⟨a4 + 5, 0, none⟩), .int .i64 (k : Int), .pointer (some ⟨i11, 0, none⟩), .int .i64 (x.2.1 + (q : Int)), junk, junk, junk, junk, junk, junk, junk, junk, junk, junk, junk, junk, junk, junk, junk, junk, junk, junk, junk, junk, junk, junk, junk, junk, junk, junk, junk, junk, junk, junk, junk, junk, junk, junk, junk, junk, junk, junk, junk, junk, junk, junk, junk, junk, junk, junk, junk, junk, junk, junk, junk, junk, junk, junk, junk, junk, junk, junk, junk, junk, junk, junk, junk, junk, junk, junk, junk, junk, junk, junk, junk, junk, junk, junk, junk, junk, junk, junk, junk, junk, junk, junk, junk, junk, junk, junk, junk, junk, junk, junk, junk, junk, junk, junk, junk, junk, junk, junk, junk, junk, junk, junk, junk, junk, junk, junk, junk, junk, junk, junk, junk, junk, junk, junk, junk, junk, junk, junk, junk, junk, junk, junk, junk, junk, junk, junk, junk, junk, junk, junk, junk, junk, junk, junk, junk, junk, junk, junk, junk] ∧
      TabI L M k (x.2.1 + (q : Int)) m best ∧ FewSt H a4 (a4 + 2) (a4 + 3) (a4 + 4) (a4 + 5) (a4 + 6) L M v m best H' ∧ H'[G5.length]? = some Rb ∧ H'[i11]? = some (.cells true 0 (markC x))) ?_ ?_
    · exact ⟨m, best, by simp [forget], by simpa using h3, hS, hRb, c11⟩
    rintro q e H2 hq ⟨m, best, rfl, hT, hS, hRb, c11⟩
    (repeat (first | refine yw ?_ | ((first | apply yd | apply ye); simp (disch := first|exact zz|fail) only [go_sem, load_at c11, markC]; with_reducible rfl)))
    refine cond_p rfl (fun hlt2 => ?_) (fun hge2 => ?_)
    rotate_left 1
    · have hqn : q = n := by omega
      subst hqn
      (refine yg ?_)
      refine rounded_n hRb ⟨k, m, best, rfl, by omega, ?_, hS⟩
      refine TabI.close ?_
      rw [hx]
      rw [show x.2.2 + 1 = x.2.1 + (q : Int) by omega]
      exact hT
    have hqn : q < n := by omega
    obtain ⟨t, ht⟩ : ∃ t, x.2.1 + (q : Int) = t := ⟨_, rfl⟩
    have hin : inR M k t := by unfold inR; rw [hx]; omega
    have ht2 : t + 1 = x.2.1 + ((q + 1 : Nat) : Int) := by omega
    rw [ht] at hT
    have lH2 : a4 + 7 ≤ H2.length ∧ G5.length < H2.length ∧ i11 < H2.length := by
      have q1 := (List.getElem?_eq_some_iff.1 hS.bb).1
      have q2 := (List.getElem?_eq_some_iff.1 hRb).1
      have q3 := (List.getElem?_eq_some_iff.1 c11).1
      omega
    (repeat (first | refine yv ?_ | (apply yd; simp (disch := first|exact zz|fail) only [go_sem, load_at c11, markC, ht, fill2i, store_new2]; with_reducible rfl)))
    have hS := hS.app [AObj.cells true 0 [.int .i64 x.1, .int .i64 t]]
    have hRb := at_app (N := [AObj.cells true 0 [.int .i64 x.1, .int .i64 t]]) hRb
    have c11 := at_app (N := [AObj.cells true 0 [.int .i64 x.1, .int .i64 t]]) c11
    have c13 : (H2 ++ [AObj.cells true 0 [.int .i64 x.1, .int .i64 t]])[H2.length]? = some (.cells true 0 [.int .i64 x.1, .int .i64 t]) := at_new
    obtain ⟨i13, h13⟩ : ∃ i13, H2.length = i13 := ⟨_, rfl⟩
    rw [h13] at c13 lH2 ⊢
    generalize (H2 ++ [AObj.cells true 0 [.int .i64 x.1, .int .i64 t]] : AHeap) = G6 at hS hRb c11 c13
    have hne : ∀ (c : AObj), (G6.set (a4 + 3) c)[G5.length]? = some Rb ∧ (G6.set (a4 + 3) c)[i11]? = some (.cells true 0 (markC x)) ∧ (G6.set (a4 + 3) c)[i13]? = some (.cells true 0 [.int .i64 x.1, .int .i64 t]) := fun c =>
      ⟨by rw [List.getElem?_set_ne (by omega)]; exact hRb, by rw [List.getElem?_set_ne (by omega)]; exact c11, by rw [List.getElem?_set_ne (by omega)]; exact c13⟩
    (repeat (first | refine yw ?_ | ((first | apply yd | apply ye); simp (disch := first|exact zz|fail) only [go_sem, load_at hS.b7]; with_reducible rfl)))
    refine cond_p rfl (fun hlast => ?_) (fun hnl => ?_)
    · have hkl1 : k + 1 = M.length := by omega
      have hw := tabK_last (L := L) hkl1 hin
      have hput : mapPutR [(0, false), (1, false)] (.map (some (a4 + 3))) (.agg ⟨[.int .i64 x.1, .int .i64 t]⟩) (.agg ⟨[.int .i64 1, .int .i64 0, .int .i64 0, .int .i64 0]⟩) G6 = some (undef, G6.set (a4 + 3) (.map (entsP (putP (x.1, t) (wayV (1, (0, 0), 0)) m)))) := map_put hS.mp x.1 t _
      have hT2 := hT.other hk hkl hin hw (by omega)
      rw [emp, ht2] at hT2
      obtain ⟨q1, q2, q3⟩ := hne (.map (entsP (putP (x.1, t) (wayV (1, (0, 0), 0)) m)))
      (repeat (first | refine yw ?_ | ((first | apply yd | apply ye); simp (disch := first|exact zz|fail) only [go_sem, load_at hS.b8, n2_at c13, hput, ht2]; with_reducible rfl)))
      exact ⟨by omega, _, best, by simp [forget], hT2, hS.put o _, q1, q2⟩
    have hkl1 : k + 1 < M.length := by omega
    have hl6 := hl.ext hS.ext
    have hsh : ACall Go.Proofs.Try.prog 104 [evV L v, .int .i64 k, .agg ⟨[.int .i64 (mP M k), .int .i64 t]⟩, .map (some (a4 + 3))] G6 fun w H' => w = .tuple #[wayV (outK L M k t), .bool (decide (0 < (outK L M k t).1))] ∧ H' = G6 :=
      shortest_c (T := tabN L M (M.length - (k + 1))) hl6 hk hkl hin hS.mp (fun a b h1 h2 h3 => by rw [tabK_of h2 (by omega) (by omega)]; exact hT.1.get a b h2 (.inl h1) h3) (fun a b w hw => tab_few (by omega) hlen hw)
    have hmid := tabK_mid (L := L) hkl1 hin
    obtain ⟨out, ho⟩ : ∃ out, outK L M k t = out := ⟨_, rfl⟩
    rw [ho] at hsh hmid
    rw [emp] at hsh
    have hst14 := store_newW (H := G6) (w := out) (vs := [.int .i64 0, .int .i64 0, .int .i64 0, .int .i64 0]) rfl
    (repeat (first | refine yw ?_ | ((first | apply yd | apply ye); simp (disch := first|exact zz|fail) only [go_sem, load_ev hS.b4, n2_at c13, load_at hS.b8]; with_reducible rfl)))
    (refine aops_call_to (hsh) ?_)
    (repeat (first | refine yv ?_ | (apply yd; simp (disch := first|exact zz|fail) only [go_sem, hst14]; with_reducible rfl)))
    have hS7 := hS.app [AObj.cells true 0 (wayC out)]
    have hRb := at_app (N := [AObj.cells true 0 (wayC out)]) hRb
    have c11 := at_app (N := [AObj.cells true 0 (wayC out)]) c11
    have l13 : i13 < G6.length := (List.getElem?_eq_some_iff.1 c13).1
    have c13 := at_app (N := [AObj.cells true 0 (wayC out)]) c13
    have c14 : (G6 ++ [AObj.cells true 0 (wayC out)])[G6.length]? = some (.cells true 0 (wayC out)) := at_new
    obtain ⟨i14, h14⟩ : ∃ i14, G6.length = i14 := ⟨_, rfl⟩
    rw [h14] at c14 l13 ⊢
    clear hne hst14
    generalize (G6 ++ [AObj.cells true 0 (wayC out)] : AHeap) = G7 at hS7 hRb c11 c13 c14
    refine cond_p (p := 0 < out.1) rfl (fun h0 => ?_) (fun h0 => ?_)
    rotate_left 1
    · rw [if_neg h0] at hmid
      have hT2 := hT.skip hk hkl hmid
      rw [ht2] at hT2
      (repeat (first | refine yw ?_ | ((first | apply yd | apply ye); simp (disch := first|exact zz|fail) only [go_sem, ht2]; with_reducible rfl)))
      exact ⟨by omega, m, best, by simp [forget], hT2, hS7, hRb, c11⟩
    rw [if_pos h0] at hmid
    obtain ⟨m', hm'⟩ : ∃ m', putP (x.1, t) (wayV out) m = m' := ⟨_, rfl⟩
    have hput : mapPutR [(0, false), (1, false)] (.map (some (a4 + 3))) (.agg ⟨[.int .i64 x.1, .int .i64 t]⟩) (wayV out) G7 = some (undef, G7.set (a4 + 3) (.map (entsP m'))) := by rw [← hm']; exact map_put hS7.mp x.1 t _
    have hS8 := hS7.put o m'
    have hRb := (show (G7.set (a4 + 3) (.map (entsP m')))[G5.length]? = some Rb by rw [List.getElem?_set_ne (by omega)]; exact hRb)
    have c11 := (show (G7.set (a4 + 3) (.map (entsP m')))[i11]? = some (.cells true 0 (markC x)) by rw [List.getElem?_set_ne (by omega)]; exact c11)
    have d13 := (show (G7.set (a4 + 3) (.map (entsP m')))[i13]? = some (.cells true 0 [.int .i64 x.1, .int .i64 t]) by rw [List.getElem?_set_ne (by omega)]; exact c13)
    have d14 := (show (G7.set (a4 + 3) (.map (entsP m')))[i14]? = some (.cells true 0 (wayC out)) by rw [List.getElem?_set_ne (by omega)]; exact c14)
    (repeat (first | refine yv ?_ | (apply yd; simp (disch := first|exact zz|fail) only [go_sem, load_at hS7.b8, n2_at c13, load_way c14, hput]; with_reducible rfl)))
    generalize (G7.set (a4 + 3) (.map (entsP m')) : AHeap) = G8 at hS8 hRb c11 d13 d14
    obtain ⟨og, hog, hcase⟩ : ∃ og : Option Way, getP m' best = og.map wayV ∧ ((k ≠ 0 ∧ TabI L M k (t + 1) m' best) ∨ (k = 0 ∧ ((og = none ∧ TabI L M k (t + 1) m' (x.1, t)) ∨ ∃ u : Way, og = some u ∧ best.1 = x.1 ∧ (out.1 < u.1 → TabI L M k (t + 1) m' (x.1, t)) ∧ (¬ out.1 < u.1 → TabI L M k (t + 1) m' best)))) := by
      by_cases hk0 : k = 0
      · subst hk0
        obtain ⟨og, h1, h2⟩ := hT.first hk (by omega) hin hmid
        rw [emp, hm'] at h1 h2
        exact ⟨og, h1, .inr ⟨rfl, h2⟩⟩
      · have h2 := hT.other hk hkl hin hmid hk0
        rw [emp, hm'] at h2
        obtain ⟨og, h1⟩ := h2.1.any best
        exact ⟨og, h1, .inl ⟨hk0, h2⟩⟩
    have hst16 := store_newW (H := G8) (w := og.getD zeroW) (vs := [.int .i64 0, .int .i64 0, .int .i64 0, .int .i64 0]) rfl
    (repeat (first | refine yv ?_ | (apply yd; simp (disch := first|exact zz|fail) only [go_sem, load_at hS8.b8, n2_at hS8.b9, get_way hS8.mp hog, hst16]; with_reducible rfl)))
    have hS9 := hS8.app [AObj.cells true 0 (wayC (og.getD zeroW))]
    have hRb := at_app (N := [AObj.cells true 0 (wayC (og.getD zeroW))]) hRb
    have c11 := at_app (N := [AObj.cells true 0 (wayC (og.getD zeroW))]) c11
    have d13 := at_app (N := [AObj.cells true 0 (wayC (og.getD zeroW))]) d13
    have d14 := at_app (N := [AObj.cells true 0 (wayC (og.getD zeroW))]) d14
    have d16 : (G8 ++ [AObj.cells true 0 (wayC (og.getD zeroW))])[G8.length]? = some (.cells true 0 (wayC (og.getD zeroW))) := at_new
    obtain ⟨i16, h16⟩ : ∃ i16, G8.length = i16 := ⟨_, rfl⟩
    rw [h16] at d16 ⊢
    clear hst16 hput
    generalize (G8 ++ [AObj.cells true 0 (wayC (og.getD zeroW))] : AHeap) = G9 at hS9 hRb c11 d13 d14 d16
    have better : TabI L M k (t + 1) m' (x.1, t) → ∃ m best, ([junk, .pointer (some ⟨H.length, 0, none⟩)] : List Value) = [junk, .pointer (some ⟨H.length, 0, none⟩)] ∧ TabI L M k (x.2.1 + ((q + 1 : Nat) : Int)) m best ∧ FewSt H a4 (a4 + 2) (a4 + 3) (a4 + 4) (a4 + 5) (a4 + 6) L M v m best (G9.set (a4 + 5) (.cells true 0 [.int .i64 x.1, .int .i64 t])) ∧ (G9.set (a4 + 5) (.cells true 0 [.int .i64 x.1, .int .i64 t]))[G5.length]? = some Rb ∧ (G9.set (a4 + 5) (.cells true 0 [.int .i64 x.1, .int .i64 t]))[i11]? = some (.cells true 0 (markC x)) := fun hT2 =>
      ⟨m', (x.1, t), rfl, ht2 ▸ hT2, hS9.setBest o (x.1, t), by rw [List.getElem?_set_ne (by omega)]; exact hRb, by rw [List.getElem?_set_ne (by omega)]; exact c11⟩
    rcases hcase with ⟨hk0, hT2⟩ | ⟨hk0, ⟨rfl, hT2⟩ | ⟨u, rfl, hb1, hT2, hT3⟩⟩
    · (repeat (first | refine yw ?_ | ((first | apply yd | apply ye); simp (disch := first|exact zz|fail) only [go_sem, dec_f (show ¬ (k : Int) = 0 by omega)]; with_reducible rfl)))
      refine cond_f rfl ?_
      (repeat (first | refine yw ?_ | ((first | apply yd | apply ye); simp (disch := first|exact zz|fail) only [go_sem, ht2]; with_reducible rfl)))
      exact ⟨by omega, m', best, by simp [forget], ht2 ▸ hT2, hS9, hRb, c11⟩
    · obtain ⟨m2, best2, _, r1, r2, r3, r4⟩ := better hT2
      (repeat (first | refine yw ?_ | ((first | apply yd | apply ye); simp (disch := first|exact zz|fail) only [go_sem, dec_t (show (k : Int) = 0 by omega)]; with_reducible rfl)))
      refine cond_t rfl ?_
      (repeat (first | refine yw ?_ | ((first | apply yd | apply ye); simp (disch := first|exact zz|fail) only [go_sem, n2_at d13, store_b2 hS9.b9, ht2]; with_reducible rfl)))
      exact ⟨by omega, m2, best2, by simp [forget], r1, r2, r3, r4⟩
    · have d16' : G9[i16]? = some (.cells true 0 (wayC u)) := d16
      by_cases hwu : out.1 < u.1
      · obtain ⟨m2, best2, _, r1, r2, r3, r4⟩ := better (hT2 hwu)
        (repeat (first | refine yw ?_ | ((first | apply yd | apply ye); simp (disch := first|exact zz|fail) only [go_sem, dec_t (show (k : Int) = 0 by omega), load_at hS9.b9, load_at c11, markC, hb1, load_at d14, load_at d16', wayC, dec_t (show (out.1 : Int) < (u.1 : Int) by omega)]; with_reducible rfl)))
        refine cond_t rfl ?_
        (repeat (first | refine yw ?_ | ((first | apply yd | apply ye); simp (disch := first|exact zz|fail) only [go_sem, n2_at d13, store_b2 hS9.b9, ht2]; with_reducible rfl)))
        exact ⟨by omega, m2, best2, by simp [forget], r1, r2, r3, r4⟩
      · (repeat (first | refine yw ?_ | ((first | apply yd | apply ye); simp (disch := first|exact zz|fail) only [go_sem, dec_t (show (k : Int) = 0 by omega), load_at hS9.b9, load_at c11, markC, hb1, load_at d14, load_at d16', wayC, dec_f (show ¬ (out.1 : Int) < (u.1 : Int) by omega)]; with_reducible rfl)))
        refine cond_f rfl ?_
        (repeat (first | refine yw ?_ | ((first | apply yd | apply ye); simp (disch := first|exact zz|fail) only [go_sem, ht2]; with_reducible rfl)))
        exact ⟨by omega, m', best, by simp [forget], ht2 ▸ hT3 hwu, hS9, hRb, c11⟩
  · rintro H' ⟨i, m, best, h1, h2i, h3, h4⟩
    match i, h1 with
    | 0, _ =>
    obtain ⟨hM, hBs⟩ := h3.1 rfl
    clear h3 x5 c5 l5 hS5 n0 n1 n2 n3 b0 b1 b4 xB lB hlB
    have hl9 := hl.ext h4.ext
    rcases hBs with ⟨e1, e2⟩ | ⟨b, w, e1, e2, e3, e4, e5⟩
    · have hg0 : getP m best = (none : Option Way).map wayV := by
        rw [e1]
        cases hp : getP m (0, 0) with
        | none => rfl
        | some x =>
          obtain ⟨k', b, e3, hk', hc, hrb⟩ := hM.only (0, 0) (by rw [hp]; simp)
          have hb1 : (0 : Int) = mP M k' := (Prod.mk.inj e3).1
          have p0 := hk.pos 0 (by omega)
          rcases hc with hc | ⟨rfl, hc⟩
          · have := hk.lt hc hk'
            unfold mP at hb1; omega
          · have := hM.get 0 b (by omega) (.inr ⟨rfl, hc⟩) hrb
            rw [← e3, hp, e2 b hrb hc] at this; cases this
      have hst := store_newW (H := H') (w := zeroW) (vs := [.int .i64 0, .int .i64 0, .int .i64 0, .int .i64 0]) rfl
      have hg1 := get_way h4.mp hg0
      (repeat (first | refine yw ?_ | ((first | apply yd | apply ye); simp (disch := first|exact zz|fail) only [go_sem, load_at h4.b8, n2_at h4.b9, hg1, Option.getD_none, hst]; with_reducible rfl)))
      refine cond_t rfl ?_
      have k1 := at_app (N := [AObj.cells true 0 (wayC zeroW)]) h4.b2
      (repeat (first | refine yw ?_ | ((first | apply yd | apply ye); simp (disch := first|exact zz|fail) only [go_sem, fill_none, store_a1 (y := .slice none 0 0) k1 rfl]; with_reducible rfl)))
      exact fin_l2a rfl (get_set_self k1) ⟨(h4.ext.app _).set (by omega) _, _, [], _, rfl, pairs_nil _, .inr (.inl ⟨ee, rfl, rfl, none_chain (by omega) e2⟩)⟩
    have hw12 := ((tabK_spec (show 0 < M.length by omega)).1 w e4).1.few
    have hg0 : getP m best = (some w).map wayV := by rw [e1, hM.get 0 b (by omega) (.inr ⟨rfl, e3⟩) e2, e4]
    have hst := store_newW (H := H') (w := w) (vs := [.int .i64 0, .int .i64 0, .int .i64 0, .int .i64 0]) rfl
    have hg1 := get_way h4.mp hg0
    subst e1
    (repeat (first | refine yv ?_ | (apply yd; simp (disch := first|exact zz|fail) only [go_sem, load_at h4.b8, n2_at h4.b9, hg1, Option.getD_some, hst]; with_reducible rfl)))
    have hS := h4.app [AObj.cells true 0 (wayC w)]
    have c18 : (H' ++ [AObj.cells true 0 (wayC w)])[H'.length]? = some (.cells true 0 (wayC w)) := at_new
    have li : a4 + 7 ≤ H'.length := (List.getElem?_eq_some_iff.1 h4.bb).1
    obtain ⟨i18, h18⟩ : ∃ i18, H'.length = i18 := ⟨_, rfl⟩
    have lF : (H' ++ [AObj.cells true 0 (wayC w)]).length = i18 + 1 := by simp [h18]
    rw [h18] at c18 li ⊢
    clear h4 hst hg1
    generalize (H' ++ [AObj.cells true 0 (wayC w)] : AHeap) = F at hS c18 lF
    have hl10 := hl.ext hS.ext
    have hm0 := (hl10.load (Ext.refl F) (i := 0) (by omega)).2.2.2.2.2.2.2.1
    have hf0 := (hl10.load (Ext.refl F) (i := 0) (by omega)).2.2.1
    have hix := hl10.idx (H' := F) (i := 0) (k := .i64) (by omega) (by omega)
    rw [show ((0 : Int).toNat * 3) = 0 * 3 from rfl] at hix
    (repeat (first | refine yw ?_ | ((first | apply yd | apply ye); simp (disch := first|exact zz|fail) only [go_sem, load_at hS.b9, load_at hS.b1, evC, hix, hf0, hm0]; with_reducible rfl)))
    refine cond_f rfl ?_
    have hsl : ∀ J : AHeap, storeR 1 (.pointer (some ⟨J.length, 0, none⟩)) (.agg ⟨[.slice (some ⟨i18 + 1, 0, none⟩) 1 1]⟩) (J ++ [.cells true 0 [.slice none 0 0]]) = some (undef, J ++ [.cells true 0 [.slice (some ⟨i18 + 1, 0, none⟩) 1 1]]) := fun J => store_newA rfl
    (repeat (first | refine yv ?_ | (apply yd; simp (disch := first|exact zz|fail) only [go_sem, n2_at hS.b9, fill_pair, fillA_slice, lF, hsl]; with_reducible rfl)))
    obtain ⟨F2, hF2⟩ : ∃ F2, F2 = F ++ [AObj.cells true 2 [.int .i64 (mP M 0), .int .i64 b]] ++ [AObj.cells true 0 [.slice (some ⟨i18 + 1, 0, none⟩) 1 1]] := ⟨_, rfl⟩
    have hS2 : FewSt H a4 (a4 + 2) (a4 + 3) (a4 + 4) (a4 + 5) (a4 + 6) L M v m (mP M 0, b) F2 := by rw [hF2]; exact (hS.app _).app _
    have c18 : F2[i18]? = some (.cells true 0 (wayC w)) := by rw [hF2]; exact at_app (at_app c18)
    have c19 : F2[i18 + 1]? = some (.cells true 2 [.int .i64 (mP M 0), .int .i64 b]) := by rw [hF2, ← lF]; exact at_app at_new
    have c20 : F2[i18 + 2]? = some (.cells true 0 [.slice (some ⟨i18 + 1, 0, none⟩) 1 1]) := by rw [hF2, show i18 + 2 = F.length + 1 by omega]; simp
    have hown : OwnP F F2 [(mP M 0, b)] (.slice (some ⟨i18 + 1, 0, none⟩) 1 1) := ⟨rfl, .inr ⟨i18 + 1, rfl, by omega, Nat.one_pos, c19⟩⟩
    try (simp only [List.length_append, List.length_cons, List.length_nil, Nat.zero_add, Nat.add_assoc, Nat.reduceAdd])
    try simp only [lF, Nat.add_assoc, Nat.reduceAdd]
    rw [← hF2]
    clear hF2 c19 hsl
    refine awp_loop_n [false, true, true, false, false, false, false, false, true, false, false, false, false, false, false, false, false, false, true, false, true, false, false, false, false, false, false, false, false, false, false, false, false, false, false, false, false, false, false, false, false, false, false, false, false, false, false, false, false, false, false, false, false, false, false, false, false, false, false, false, false, false, false, false, false, false, false, false, false, false, false, false, false, false, false, false, false, false, false, false, false, false, false, false, false, false, false, false, false, false, false, false, false, false, false, false, false, false, false, false, false, false, false, false, false, false, false, false, false, false, false, false, false, false, false, false, false, false, false, false, false, false, false, false, false, false, false, false, false, false, false, false, false, false, false, false, false, false, false, false, false, false, false, false, false, false, false, false, false, false, false, false] (w.1 - 1) (fun j e J => ∃ k c u pre sv, e = [junk, .pointer (some ⟨H.length, 0, none⟩), .pointer (some ⟨H.length + 1, 0, none⟩), junk, junk, junk, junk, junk, .pointer (some ⟨a4 + 4, 0, none⟩), junk, junk, junk, junk, junk, junk, junk, junk, junk, .pointer (some ⟨i18, 0, none⟩), junk, .pointer (some ⟨i18 + 2, 0, none⟩), junk, junk, junk, junk, junk, junk, junk, junk, junk, junk, junk, junk, junk, junk, junk, junk, junk, junk, junk, junk, junk, junk, junk, junk, junk, junk, junk, junk, junk, junk, junk, junk, junk, junk, junk, junk, junk, junk, junk, junk, junk, junk, junk, junk, junk, junk, junk, junk, junk, junk, junk, junk, junk, junk, junk, junk, junk, junk, junk, junk, junk, junk, junk, junk, junk, junk, junk, junk, junk, junk, junk, junk, junk, junk, junk, junk, junk, junk, junk, junk, junk, junk, junk, junk, junk, junk, junk, junk, junk, junk, junk, junk, junk, junk, junk, junk, junk, junk, junk, junk, junk, junk, junk, junk, junk, junk, junk, junk, junk, junk, junk, junk, junk, junk, junk, junk, junk, junk, junk, junk, junk, junk, junk, junk, junk, junk, junk, junk, junk, junk, junk] ∧
      k < M.length ∧ tabK L M k c = some u ∧ u.1 + j = w.1 ∧ pre.length = j ∧ (∀ l, ChainL L M k c l → ChainL L M 0 b (pre ++ l)) ∧ FewSt H a4 (a4 + 2) (a4 + 3) (a4 + 4) (a4 + 5) (a4 + 6) L M v m (mP M 0, b) J ∧ J[i18]? = some (.cells true 0 (wayC u)) ∧ J[i18 + 2]? = some (.cells true 0 [sv]) ∧ OwnP F J (pre ++ [(mP M k, c)]) sv ∧ idOf sv ≠ i18 + 2 ∧ i18 + 2 < J.length) ?_ ?_
    · exact ⟨0, b, w, [], _, by simp [forget], by omega, e4, rfl, rfl, fun l h => h, hS2, c18, c20, hown, by show i18 + 1 ≠ i18 + 2; omega, (List.getElem?_eq_some_iff.1 c20).1⟩
    clear hS2 c18 c20 hown
    rintro j e J hj ⟨k, c, u, pre, sv, rfl, hkl, hu, huj, hpl, hch, hS3, c18, c20, hown, hid, hlJ⟩
    have hu0 := ((tabK_spec hkl).1 u hu).1.lt.2
    have hpl2 : (pre ++ [(mP M k, c)]).length = j + 1 := by simp [hpl]
    (repeat (first | refine yw ?_ | ((first | apply yd | apply ye); simp (disch := first|exact zz|fail) only [go_sem, load_at c18, wayC]; with_reducible rfl)))
    refine cond_p (p := (1 : Int) < (u.1 : Int)) rfl (fun hlt => ?_) (fun hge => ?_)
    rotate_left 1
    · obtain ⟨hk1, hin⟩ := tab_one hkl hu (by omega)
      have hfin := hch _ (ChainL.last hk1 hin)
      have k1 := hS3.b2
      have hsv : isAtom sv = true := hown.pairs.atom
      (repeat (first | refine yw ?_ | ((first | apply yd | apply ye); simp (disch := first|exact zz|fail) only [go_sem, n1_at c20, store_a1 (y := sv) k1 hsv]; with_reducible rfl)))
      refine fin_l2a rfl (get_set_self k1) ⟨hS3.ext.set (by omega) _, sv, pre ++ [(mP M k, c)], 0, rfl, (hown.set_ne (hown.aside (by omega)) _).pairs, .inr (.inr ⟨ee, rfl, b, hfin, fun s' n hc => ?_⟩)⟩
      have := first_min (by omega) e5 s' n hc
      omega
    obtain ⟨a, d, w', n1, n2, n3, n4, n5, n6, n7⟩ := tab_next hkl hu (by omega)
    have en1 : u.2.1.1 = mP M a := by rw [n5]
    have en2 : u.2.1.2 = d := by rw [n5]
    have hgw : getP m (mP M a, d) = (some w').map wayV := by
      rw [hM.get a d n2 ?_ n3, n6]
      by_cases ha : a = 0
      · omega
      · exact .inl (by omega)
    have hpush := hown.push (by rw [hpl2]; omega) (mP M a) d
    have hlF : F.length ≤ J.length := by omega
    have own2 := hown.pushedL hlF (mP M a, d)
    have hasd : ∀ i, i < i18 + 1 → sv = .slice none 0 0 ∨ idOf sv ≠ i := fun i hi => hown.aside (by omega)
    have p20 := pushP_at (l := pre ++ [(mP M k, c)]) (x := (mP M a, d)) c20 (.inr hid)
    have p18 := pushP_at (l := pre ++ [(mP M k, c)]) (x := (mP M a, d)) c18 (hasd _ (by omega))
    have hst20 := store_b1 (y := pushV J (pre ++ [(mP M k, c)]).length) p20 rfl rfl
    rw [hpl2] at hpush own2 hst20
    have hS4 := (hS3.push o hown (by omega) (mP M a, d)).set o (j := i18 + 2) (by omega) (.cells true 0 [pushV J (j + 1)])
    have q18 := (show ((pushPH J sv (pre ++ [(mP M k, c)]) (mP M a, d)).set (i18 + 2) (.cells true 0 [pushV J (j + 1)]))[i18]? = some (.cells true 0 (wayC u)) by rw [List.getElem?_set_ne (by omega)]; exact p18)
    have q20 := (show ((pushPH J sv (pre ++ [(mP M k, c)]) (mP M a, d)).set (i18 + 2) (.cells true 0 [pushV J (j + 1)]))[i18 + 2]? = some (.cells true 0 [pushV J (j + 1)]) from get_set_self p20)
    have own3 := own2.set_ne (j := i18 + 2) (.inr (by show J.length + 1 ≠ i18 + 2; omega)) (.cells true 0 [pushV J (j + 1)])
    have l4' : ((pushPH J sv (pre ++ [(mP M k, c)]) (mP M a, d)).set (i18 + 2) (.cells true 0 [pushV J (j + 1)])).length = J.length + 2 := by rw [List.length_set, pushP_len]
    (repeat (first | refine yv ?_ | (apply yd; simp (disch := first|exact zz|fail) only [go_sem, load1 c20, load_way2 c18, en1, en2, fill_pair, hpush, hst20]; with_reducible rfl)))
    generalize ((pushPH J sv (pre ++ [(mP M k, c)]) (mP M a, d)).set (i18 + 2) (.cells true 0 [pushV J (j + 1)]) : AHeap) = J2 at hS4 q18 q20 own3 l4'
    have hst18 := store_atW (w := w') q18
    (repeat (first | refine yw ?_ | ((first | apply yd | apply ye); simp (disch := first|exact zz|fail) only [go_sem, load_at hS4.b8, load_way2 q18, en1, en2, get_way1 hS4.mp hgw, Option.getD_some, hst18]; with_reducible rfl)))
    refine ⟨by omega, a, d, w', pre ++ [(mP M k, c)], pushV J (j + 1), by simp [forget], n2, n6, by omega, hpl2, fun l hl => ?_, hS4.set o (by omega) _, get_set_self q18, ?_, own3.set_ne (.inr ?_) _, ?_, ?_⟩
    · rw [List.append_assoc]
      exact hch _ (ChainL.step ((tabK_spec hkl).1 u hu).1.inR n1 n4 hl)
    · rw [List.getElem?_set_ne (by omega)]; exact q20
    · show J.length + 1 ≠ i18; omega
    · show J.length + 1 ≠ i18 + 2; omega
    · rw [List.length_set]; omega
  · rintro x H' hx h
    exact h.elim
end
end Go.Lq

namespace Go.Lq
open Go
open Go.Proofs

def mapX : List (Int × Int) := [(0, 0), (10, 100), (20, 220)]
def evX : List Mark := [(0, 0, 0), (10, 90, 130), (20, 150, 210)]
def bentX : List Mark := [(0, 0, 0), (10, 90, 92), (20, 200, 204)]
theorem posX : posAtL mapX 105 = ((666, 667), 0) := by decide +kernel
theorem encX : encAtL (8, 12) evX 10 = ((90, 120), 0) := by decide +kernel
theorem wowX : wowL mapX = ((10, 1), 1, 0) := by decide +kernel
theorem fewX : fewErr (8, 12) bentX = 0 := by decide +kernel
theorem bentChain : Chain (8, 12) bentX 0 0 3 :=
  .step ⟨by decide, by decide⟩ (k := 1) (t := 90) (by decide) ⟨by decide, fun j a b => by omega⟩
    (.step ⟨by decide, by decide⟩ (k := 2) (t := 204) (by decide) ⟨by decide, fun j a b => by omega⟩ (.last rfl ⟨by decide, by decide⟩))
theorem bentRes {l : List (Int × Int)} {e : Int} (h : FewRes (8, 12) bentX l e) : e = 0 ∧ l.length = 3 := by
  rcases h with ⟨h, _⟩ | ⟨_, _, _, h⟩ | ⟨_, h, s, hc, hm⟩
  · exact absurd fewX h
  · exact absurd bentChain (h 0 3)
  · refine ⟨h, ?_⟩
    have h3 := hm 0 3 bentChain
    cases hc with
    | last hi _ => cases hi
    | @step _ k _ t l hr hik hj hc =>
      cases hc with
      | last hi hr2 =>
        have hi : k + 1 = 3 := hi
        obtain rfl : k = 2 := by omega
        have hm1 : meetsB ((0, s), (20, t)) (10, 90, 92) = true := hj.meets 1 (by decide) (by decide)
        have hm2 : (90 : Int) * (20 - 0) ≤ s * (20 - 0) + (t - s) * (10 - 0) ∧ s * (20 - 0) + (t - s) * (10 - 0) ≤ 92 * (20 - 0) := of_decide_eq_true hm1
        have r1 : (0 : Int) ≤ s ∧ s ≤ 0 := hr
        have r2 : (200 : Int) ≤ t ∧ t ≤ 204 := hr2
        omega
      | step hr2 hik2 hj2 hc2 =>
        have := hc2.chain.lt.2
        simp only [List.length_cons] at h3 ⊢
        omega
theorem fbt : (false != true) = true := rfl
section
variable {H : AHeap}
theorem map0_c : ACall Go.Proofs.Try.prog 69 [] H fun w H' => ∃ s, w = .agg ⟨[s]⟩ ∧ Pairs H' mapX s ∧ Ext H H' := by
  (refine a69 ?_; simp only [n69, List.replicate, yq, yr, yt, yu]; first | refine q1 ?_ | refine q2 ?_ | refine q6 ?_ | refine q7 ?_ | refine qh rfl ?_ | skip)
  have g0 : (H ++ [AObj.cells true 0 [.slice none 0 0]])[H.length]? = some (.cells true 0 [.slice none 0 0]) := at_new
  have xG : Ext H (H ++ [AObj.cells true 0 [.slice none 0 0]]) := (Ext.refl H).app _
  (refine yh ?_)
  generalize (H ++ [AObj.cells true 0 [.slice none 0 0]] : AHeap) = G at g0 xG
  have hf : fillA [.int .i64 0, .int .i64 0, .int .i64 0, .int .i64 0, .int .i64 0, .int .i64 0] [(0, 2, .agg ⟨[.int .i64 0, .int .i64 0]⟩), (2, 2, .agg ⟨[.int .i64 10, .int .i64 100]⟩), (4, 2, .agg ⟨[.int .i64 20, .int .i64 220]⟩)] = some (flatP mapX) := rfl
  have hm : mkSliceL 2 3 (some (flatP mapX)) G = some (.slice (some ⟨G.length, 0, none⟩) 3 3, G ++ [.cells true 2 (flatP mapX)]) := mkSliceL_some rfl
  have k0 := at_app (N := [AObj.cells true 2 (flatP mapX)]) g0
  have hP : Pairs (G ++ [AObj.cells true 2 (flatP mapX)]) mapX (.slice (some ⟨G.length, 0, none⟩) 3 3) := Pairs.last (l := mapX) 3
  have hst := store_a1 (y := .slice (some ⟨G.length, 0, none⟩) 3 3) k0 rfl
  (repeat (first | refine yw ?_ | ((first | apply yd | apply ye); simp (disch := first|exact zz|fail) only [go_sem, fill_none, fill2i, hf, hm, fillA_slice, hst]; with_reducible rfl)))
  refine fin_l1 (u := .agg ⟨[.slice (some ⟨G.length, 0, none⟩) 3 3]⟩) (n1_at (get_set_self k0)) ⟨_, rfl, ?_, (xG.app _).set (Nat.le_refl _) _⟩
  have hl := (List.getElem?_eq_some_iff.1 g0).1
  exact Sl.of (e := 2) (o := true) (by rw [List.getElem?_set_ne (by omega)]; exact at_new) rfl
theorem ev0_c : ACall Go.Proofs.Try.prog 70 [] H fun w H' => ∃ s, w = evV (8, 12) s ∧ Tris H' evX s ∧ Ext H H' := by
  (refine a70 ?_; simp only [n70, List.replicate, yq, yr, yt, yu]; first | refine q1 ?_ | refine q2 ?_ | refine q6 ?_ | refine q7 ?_ | refine qh rfl ?_ | skip)
  have g0 : (H ++ [AObj.cells true 0 [.int .i64 0, .int .i64 0, .slice none 0 0]])[H.length]? = some (.cells true 0 [.int .i64 0, .int .i64 0, .slice none 0 0]) := at_new
  have xG : Ext H (H ++ [AObj.cells true 0 [.int .i64 0, .int .i64 0, .slice none 0 0]]) := (Ext.refl H).app _
  (refine yh ?_)
  generalize (H ++ [AObj.cells true 0 [.int .i64 0, .int .i64 0, .slice none 0 0]] : AHeap) = G at g0 xG
  have hf1 : ∀ a b c : Int, fillA [.int .i64 0, .int .i64 0, .int .i64 0] [(0, 1, .int .i64 a), (1, 2, .agg ⟨[.int .i64 b, .int .i64 c]⟩)] = some [.int .i64 a, .int .i64 b, .int .i64 c] := fun _ _ _ => rfl
  have hf : fillA [.int .i64 0, .int .i64 0, .int .i64 0, .int .i64 0, .int .i64 0, .int .i64 0, .int .i64 0, .int .i64 0, .int .i64 0] [(0, 3, .agg ⟨[.int .i64 0, .int .i64 0, .int .i64 0]⟩), (3, 3, .agg ⟨[.int .i64 10, .int .i64 90, .int .i64 130]⟩), (6, 3, .agg ⟨[.int .i64 20, .int .i64 150, .int .i64 210]⟩)] = some (flat3 evX) := rfl
  have hm : mkSliceL 3 3 (some (flat3 evX)) G = some (.slice (some ⟨G.length, 0, none⟩) 3 3, G ++ [.cells true 3 (flat3 evX)]) := mkSliceL_some rfl
  have hf2 : fillA [.int .i64 0, .int .i64 0, .slice none 0 0] [(0, 2, .agg ⟨[.int .i64 8, .int .i64 12]⟩), (2, 1, .slice (some ⟨G.length, 0, none⟩) 3 3)] = some (evC (8, 12) (.slice (some ⟨G.length, 0, none⟩) 3 3)) := rfl
  have k0 := at_app (N := [AObj.cells true 3 (flat3 evX)]) g0
  have hst := store_all (n := 3) (us := evC (8, 12) (.slice (some ⟨G.length, 0, none⟩) 3 3)) k0 rfl rfl rfl
  (repeat (first | refine yw ?_ | ((first | apply yd | apply ye); simp (disch := first|exact zz|fail) only [go_sem, fill_none, fill2i, hf1, hf, hm, hf2, hst]; with_reducible rfl)))
  refine fin_l1 (u := evV (8, 12) (.slice (some ⟨G.length, 0, none⟩) 3 3)) (load_ev (get_set_self k0)) ⟨_, rfl, ?_, (xG.app _).set (Nat.le_refl _) _⟩
  have hl := (List.getElem?_eq_some_iff.1 g0).1
  exact Sl.of (e := 3) (o := true) (by rw [List.getElem?_set_ne (by omega)]; exact at_new) rfl
theorem bent_c : ACall Go.Proofs.Try.prog 71 [] H fun w H' => ∃ s, w = evV (8, 12) s ∧ Tris H' bentX s ∧ Ext H H' := by
  (refine a71 ?_; simp only [n71, List.replicate, yq, yr, yt, yu]; first | refine q1 ?_ | refine q2 ?_ | refine q6 ?_ | refine q7 ?_ | refine qh rfl ?_ | skip)
  have g0 : (H ++ [AObj.cells true 0 [.int .i64 0, .int .i64 0, .slice none 0 0]])[H.length]? = some (.cells true 0 [.int .i64 0, .int .i64 0, .slice none 0 0]) := at_new
  have xG : Ext H (H ++ [AObj.cells true 0 [.int .i64 0, .int .i64 0, .slice none 0 0]]) := (Ext.refl H).app _
  (refine yh ?_)
  generalize (H ++ [AObj.cells true 0 [.int .i64 0, .int .i64 0, .slice none 0 0]] : AHeap) = G at g0 xG
  have hf1 : ∀ a b c : Int, fillA [.int .i64 0, .int .i64 0, .int .i64 0] [(0, 1, .int .i64 a), (1, 2, .agg ⟨[.int .i64 b, .int .i64 c]⟩)] = some [.int .i64 a, .int .i64 b, .int .i64 c] := fun _ _ _ => rfl
  have hf : fillA [.int .i64 0, .int .i64 0, .int .i64 0, .int .i64 0, .int .i64 0, .int .i64 0, .int .i64 0, .int .i64 0, .int .i64 0] [(0, 3, .agg ⟨[.int .i64 0, .int .i64 0, .int .i64 0]⟩), (3, 3, .agg ⟨[.int .i64 10, .int .i64 90, .int .i64 92]⟩), (6, 3, .agg ⟨[.int .i64 20, .int .i64 200, .int .i64 204]⟩)] = some (flat3 bentX) := rfl
  have hm : mkSliceL 3 3 (some (flat3 bentX)) G = some (.slice (some ⟨G.length, 0, none⟩) 3 3, G ++ [.cells true 3 (flat3 bentX)]) := mkSliceL_some rfl
  have hf2 : fillA [.int .i64 0, .int .i64 0, .slice none 0 0] [(0, 2, .agg ⟨[.int .i64 8, .int .i64 12]⟩), (2, 1, .slice (some ⟨G.length, 0, none⟩) 3 3)] = some (evC (8, 12) (.slice (some ⟨G.length, 0, none⟩) 3 3)) := rfl
  have k0 := at_app (N := [AObj.cells true 3 (flat3 bentX)]) g0
  have hst := store_all (n := 3) (us := evC (8, 12) (.slice (some ⟨G.length, 0, none⟩) 3 3)) k0 rfl rfl rfl
  (repeat (first | refine yw ?_ | ((first | apply yd | apply ye); simp (disch := first|exact zz|fail) only [go_sem, fill_none, fill2i, hf1, hf, hm, hf2, hst]; with_reducible rfl)))
  refine fin_l1 (u := evV (8, 12) (.slice (some ⟨G.length, 0, none⟩) 3 3)) (load_ev (get_set_self k0)) ⟨_, rfl, ?_, (xG.app _).set (Nat.le_refl _) _⟩
  have hl := (List.getElem?_eq_some_iff.1 g0).1
  exact Sl.of (e := 3) (o := true) (by rw [List.getElem?_set_ne (by omega)]; exact at_new) rfl
set_option maxHeartbeats 4000000 in
theorem awake_c : ACall Go.Proofs.Try.prog 17 [] H fun w H' => w = .bool true ∧ H' = H := by
  refine ACall.drop (.bool _) ?_
  (refine a17 ?_; simp only [n17, List.replicate, yq, yr, yt, yu]; first | refine q1 ?_ | refine q2 ?_ | refine q6 ?_ | refine q7 ?_ | refine qh rfl ?_ | skip)
  (refine yg ?_)
  refine aops_call (map0_c.mono fun w G1 ⟨s1, hw, hP, x1⟩ => ?_)
  subst hw
  (refine yg ?_)
  (refine aops_call_to (positionAt_c hP (by decide)) ?_)
  rw [posX]
  (repeat (first | refine yw ?_ | ((first | apply yd | apply ye); simp (disch := first|exact zz|fail) only [go_sem, store_newF]; with_reducible rfl)))
  have c1 : (G1 ++ [AObj.cells true 0 [.int .i64 666, .int .i64 667]])[G1.length]? = some (.cells true 0 [.int .i64 666, .int .i64 667]) := at_new
  have xH1 := x1.app [AObj.cells true 0 [.int .i64 666, .int .i64 667]]
  obtain ⟨i1, h1⟩ : ∃ i1, G1.length = i1 := ⟨_, rfl⟩
  rw [h1] at c1 ⊢
  generalize (G1 ++ [AObj.cells true 0 [.int .i64 666, .int .i64 667]] : AHeap) = G2 at c1 xH1
  refine aops_call (ev0_c.mono fun w G3 ⟨s3, hw, hE, x3⟩ => ?_)
  subst hw
  have c1 := x3.cell c1
  have xH3 := xH1.trans x3
  (refine yg ?_)
  (refine aops_call_to (encAt_c hE (by decide)) ?_)
  rw [encX]
  (repeat (first | refine yw ?_ | ((first | apply yd | apply ye); simp (disch := first|exact zz|fail) only [go_sem, store_newF]; with_reducible rfl)))
  have c3 : (G3 ++ [AObj.cells true 0 [.int .i64 90, .int .i64 120]])[G3.length]? = some (.cells true 0 [.int .i64 90, .int .i64 120]) := at_new
  have c1 := at_app (N := [AObj.cells true 0 [.int .i64 90, .int .i64 120]]) c1
  have xH4 := xH3.app [AObj.cells true 0 [.int .i64 90, .int .i64 120]]
  obtain ⟨i3, h3⟩ : ∃ i3, G3.length = i3 := ⟨_, rfl⟩
  rw [h3] at c3 ⊢
  generalize (G3 ++ [AObj.cells true 0 [.int .i64 90, .int .i64 120]] : AHeap) = G4 at c1 c3 xH4
  refine aops_call (bent_c.mono fun w G5 ⟨s5, hw, hB, x5⟩ => ?_)
  subst hw
  have c1 := x5.cell c1
  have c3 := x5.cell c3
  have xH5 := xH4.trans x5
  (refine yg ?_)
  refine aops_call ((fewest_c hB (by decide)).mono fun w G6 ⟨x6, s6, l, e, hw, hL, hF⟩ => ?_)
  subst hw
  obtain ⟨rfl, hl3⟩ := bentRes hF
  have c1 := x6.cell c1
  have c3 := x6.cell c3
  have xH6 := xH5.trans x6
  have hst : storeR 1 (.pointer (some ⟨G6.length, 0, none⟩)) (.agg ⟨[s6]⟩) (G6 ++ [.cells true 0 [.slice none 0 0]]) = some (undef, G6 ++ [.cells true 0 [s6]]) := store_newA hL.atom
  (repeat (first | refine yw ?_ | ((first | apply yd | apply ye); simp (disch := first|exact zz|fail) only [go_sem, hst]; with_reducible rfl)))
  have c5 : (G6 ++ [AObj.cells true 0 [s6]])[G6.length]? = some (.cells true 0 [s6]) := at_new
  have hL := hL.ext ((Ext.refl G6).app [AObj.cells true 0 [s6]])
  have c1 := at_app (N := [AObj.cells true 0 [s6]]) c1
  have c3 := at_app (N := [AObj.cells true 0 [s6]]) c3
  have xH7 := xH6.app [AObj.cells true 0 [s6]]
  obtain ⟨i5, h5⟩ : ∃ i5, G6.length = i5 := ⟨_, rfl⟩
  rw [h5] at c5 ⊢
  clear hst
  generalize (G6 ++ [AObj.cells true 0 [s6]] : AHeap) = G7 at c1 c3 c5 xH7 hL
  refine aops_call (map0_c.mono fun w G8 ⟨s8, hw, hP8, x8⟩ => ?_)
  subst hw
  have c1 := x8.cell c1
  have c3 := x8.cell c3
  have c5 := x8.cell c5
  have hL := hL.ext x8
  have xH8 := xH7.trans x8
  (refine yg ?_)
  (refine aops_call_to (wowOf_c hP8 (by decide)) ?_)
  rw [wowX]
  (repeat (first | refine yw ?_ | ((first | apply yd | apply ye); simp (disch := first|exact zz|fail) only [go_sem, store_newF]; with_reducible rfl)))
  have c7 : (G8 ++ [AObj.cells true 0 [.int .i64 10, .int .i64 1]])[G8.length]? = some (.cells true 0 [.int .i64 10, .int .i64 1]) := at_new
  have c1 := at_app (N := [AObj.cells true 0 [.int .i64 10, .int .i64 1]]) c1
  have c3 := at_app (N := [AObj.cells true 0 [.int .i64 10, .int .i64 1]]) c3
  have c5 := at_app (N := [AObj.cells true 0 [.int .i64 10, .int .i64 1]]) c5
  have hL := hL.ext ((Ext.refl G8).app [AObj.cells true 0 [.int .i64 10, .int .i64 1]])
  have xH9 := xH8.app [AObj.cells true 0 [.int .i64 10, .int .i64 1]]
  obtain ⟨i7, h7⟩ : ∃ i7, G8.length = i7 := ⟨_, rfl⟩
  rw [h7] at c7 ⊢
  generalize (G8 ++ [AObj.cells true 0 [.int .i64 10, .int .i64 1]] : AHeap) = G9 at c1 c3 c5 c7 xH9 hL
  have d3 : decide (((l.length : Nat) : Int) = 3) = true := dec_t (by omega)
  (repeat (first | refine yw ?_ | ((first | apply yd | apply ye); simp (disch := first|exact zz|fail) only [go_sem, hL.len, hL.idx, hL.load, n2_at c1, n2_at c3, load_at c5, n2_at c7, fill2i, d3, fbt]; with_reducible rfl)))
  (refine adraw_call (N := []) (firstD (whole_c 10)) ?_; rw [List.append_nil])
  (repeat (first | refine yw ?_ | ((first | apply yd | apply ye); simp (disch := first|exact zz|fail) only [go_sem, fracV, fbt]; with_reducible rfl)))
  exact fin_1 ⟨rfl, xH9⟩
end
end Go.Lq


namespace Go.Lq
open Go
open Go.Proofs

theorem Tris.mark {H H' : AHeap} {M : List Mark} {v : Value} (h : Tris H M v) (hx : Ext H H') {i : Nat} (hi : i < M.length) : loadNR 3 (addrOf v (i * 3)) H' = some (markV (M.getD i (0, 0, 0)), H') := (h.load hx hi).1
section
variable {H : AHeap} {L : Int × Int} {M : List Mark} {v : Value}
end
end Go.Lq

namespace Go.Lq
open Go
open Go.Proofs

theorem OwnT.aside {H0 H : AHeap} {l : List (Int × Int × Int)} {v : Value} (h : OwnT H0 H l v) {j : Nat} (hj : j < H0.length) : v = .slice none 0 0 ∨ idOf v ≠ j := by
  rcases h.2 with ⟨rfl, h0⟩ | ⟨id, rfl, h1, _, _⟩
  · exact .inl rfl
  · exact .inr (by show id ≠ j; omega)
theorem OwnT.set_ne {H0 H : AHeap} {l : List (Int × Int × Int)} {v : Value} (h : OwnT H0 H l v) {j : Nat} (hj : v = .slice none 0 0 ∨ idOf v ≠ j) (c : AObj) : OwnT H0 (H.set j c) l v := by
  refine Own.set_ne h ?_ c
  rcases hj with rfl | hj
  · rcases h.2 with ⟨_, h0⟩ | ⟨id, e, _⟩
    · exact .inl h0
    · cases e
  · exact .inr hj
theorem OwnT.pushedL {H0 H : AHeap} {l : List (Int × Int × Int)} {v : Value} (h : OwnT H0 H l v) (hx : H0.length ≤ H.length) (x : Int × Int × Int) : OwnT H0 (pushTH H v l x) (l ++ [x]) (pushV H l.length) := by
  have := Own.appended (h.app [.cells true 3 [.int .i64 x.1, .int .i64 x.2.1, .int .i64 x.2.2]]) (m := 1) (cs := [.int .i64 x.1, .int .i64 x.2.1, .int .i64 x.2.2]) rfl (by omega) (by simp; omega)
  unfold OwnT
  simpa [pushV, pushTH, flat3] using this
section
variable {H : AHeap} {L : Int × Int} {M : List Mark} {v kv : Value} {K : List Int}
end
end Go.Lq








namespace Go.Lq
open Go
open Go.Proofs

section
variable {H : AHeap} {kind deg num den step : Int} {l : List (Int × Int)} {v : Value}
theorem rFirst_c (hl : Pairs H l v) (h0 : 0 < l.length) : ACall Go.Proofs.Try.prog 34 [.agg ⟨[v]⟩] H fun w H' => w = .agg ⟨[.int .i64 (l.getD 0 (0, 0)).1, .int .i64 (l.getD 0 (0, 0)).2]⟩ ∧ H' = H := by
  refine ACall.drop (closed_frac ((l.getD 0 (0, 0)).1, (l.getD 0 (0, 0)).2)) ?_
  (refine a34 ?_; simp only [n34, List.replicate, yq, yr, yt, yu]; first | refine q1 ?_ | refine q2 ?_ | refine q6 ?_ | refine q7 ?_ | refine qh rfl ?_ | skip)
  obtain ⟨G, hG⟩ : ∃ G, G = H ++ [AObj.cells true 0 [v]] ++ [AObj.cells true 0 [.int .i64 0, .int .i64 0]] := ⟨_, rfl⟩
  have g0 : G[H.length]? = some (.cells true 0 [v]) := by rw [hG]; simp
  have g2 : G[H.length + 1]? = some (.cells true 0 [.int .i64 0, .int .i64 0]) := by rw [hG]; simp
  have xG : Ext H G := by rw [hG]; exact ((Ext.refl H).app _).app _
  (repeat (first | refine yv ?_ | (apply yd; simp (disch := first|exact zz|fail) only [go_sem, hl.box1]; with_reducible rfl)))
  (simp only [List.length_append, List.length_cons, List.length_nil, Nat.zero_add, Nat.add_assoc, Nat.reduceAdd])
  rw [← hG]
  clear hG
  have hl1 := hl.ext xG
  have e0 : (0 : Int) = ((0 : Nat) : Int) := rfl
  (repeat (first | refine yw ?_ | ((first | apply yd | apply ye); simp (disch := first|exact zz|fail) only [go_sem, hl1.len, hl1.idx, hl1.load, load_at g0, store_b2 g2]; with_reducible rfl)))
  refine fin_l1 (u := .agg ⟨[.int .i64 (l.getD 0 (0, 0)).1, .int .i64 (l.getD 0 (0, 0)).2]⟩) (loadN_at (k := 0) (get_set_self g2) (by simp)) ⟨rfl, xG.set (by omega) _⟩
theorem rLast_c (hl : Pairs H l v) (h0 : 0 < l.length) (hb : l.length ≤ 1000000) : ACall Go.Proofs.Try.prog 35 [.agg ⟨[v]⟩] H fun w H' => w = .agg ⟨[.int .i64 (l.getD (l.length - 1) (0, 0)).1, .int .i64 (l.getD (l.length - 1) (0, 0)).2]⟩ ∧ H' = H := by
  refine ACall.drop (closed_frac ((l.getD (l.length - 1) (0, 0)).1, (l.getD (l.length - 1) (0, 0)).2)) ?_
  (refine a35 ?_; simp only [n35, List.replicate, yq, yr, yt, yu]; first | refine q1 ?_ | refine q2 ?_ | refine q6 ?_ | refine q7 ?_ | refine qh rfl ?_ | skip)
  obtain ⟨G, hG⟩ : ∃ G, G = H ++ [AObj.cells true 0 [v]] ++ [AObj.cells true 0 [.int .i64 0, .int .i64 0]] := ⟨_, rfl⟩
  have g0 : G[H.length]? = some (.cells true 0 [v]) := by rw [hG]; simp
  have g2 : G[H.length + 1]? = some (.cells true 0 [.int .i64 0, .int .i64 0]) := by rw [hG]; simp
  have xG : Ext H G := by rw [hG]; exact ((Ext.refl H).app _).app _
  (repeat (first | refine yv ?_ | (apply yd; simp (disch := first|exact zz|fail) only [go_sem, hl.box1]; with_reducible rfl)))
  (simp only [List.length_append, List.length_cons, List.length_nil, Nat.zero_add, Nat.add_assoc, Nat.reduceAdd])
  rw [← hG]
  clear hG
  have hl1 := hl.ext xG
  have el : (l.length : Int) - 1 = ((l.length - 1 : Nat) : Int) := by omega
  (repeat (first | refine yw ?_ | ((first | apply yd | apply ye); simp (disch := first|exact zz|fail) only [go_sem, hl1.len, hl1.idx, hl1.load, load_at g0, el, store_b2 g2]; with_reducible rfl)))
  refine fin_l1 (u := .agg ⟨[.int .i64 (l.getD (l.length - 1) (0, 0)).1, .int .i64 (l.getD (l.length - 1) (0, 0)).2]⟩) (loadN_at (k := 0) (get_set_self g2) (by simp)) ⟨rfl, xG.set (by omega) _⟩

end
end Go.Lq

namespace Go.Lq
open Go
open Go.Proofs

def accRate (L : Int × Int) (l : List (Int × Int)) (i : Nat) : Nat → Option Nat
  | 0 => none
  | n + 1 => if keepsB L (pieceOf l i) = true then accRate L l (i + 1) n else some i
theorem accRate_succ {L : Int × Int} {l : List (Int × Int)} {i n : Nat} : accRate L l i (n + 1) = if keepsB L (pieceOf l i) = true then accRate L l (i + 1) n else some i := rfl
def accMark (M : List Mark) (l : List (Int × Int)) (i : Nat) : Nat → Int × Int
  | 0 => (0, 0)
  | n + 1 => if (l.getD 0 (0, 0)).1 ≤ (M.getD i (0, 0, 0)).1 ∧ (M.getD i (0, 0, 0)).1 ≤ (l.getD (l.length - 1) (0, 0)).1 then
      (if meetsB (pieceP l (M.getD i (0, 0, 0)).1) (M.getD i (0, 0, 0)) = true then accMark M l (i + 1) n else ((i : Int), 13)) else ((i : Int), 14)
theorem accMark_succ {M : List Mark} {l : List (Int × Int)} {i n : Nat} : accMark M l i (n + 1) = if (l.getD 0 (0, 0)).1 ≤ (M.getD i (0, 0, 0)).1 ∧ (M.getD i (0, 0, 0)).1 ≤ (l.getD (l.length - 1) (0, 0)).1 then
      (if meetsB (pieceP l (M.getD i (0, 0, 0)).1) (M.getD i (0, 0, 0)) = true then accMark M l (i + 1) n else ((i : Int), 13)) else ((i : Int), 14) := rfl
def accGo (L : Int × Int) (M : List Mark) (l : List (Int × Int)) : Int × Int := match accRate L l 0 (l.length - 1) with | some i => ((i : Int), 23) | none => accMark M l 0 M.length
section
variable {H : AHeap} {L : Int × Int} {M : List Mark} {v u : Value} {l : List (Int × Int)}
end
end Go.Lq


namespace Go.Lq
open Go
open Go.Proofs

theorem meets_iff {p : (Int × Int) × (Int × Int)} {x : Mark} : meetsB p x = true ↔ atLeast p x.1 x.2.1 ∧ atMost p x.1 x.2.2 := decide_eq_true_iff
section
variable {H : AHeap} {L : Int × Int} {M : List Mark} {v u : Value} {l : List (Int × Int)}
end
end Go.Lq

namespace Go.Lq

theorem accRate_all {L : Int × Int} {l : List (Int × Int)} : ∀ {n i : Nat}, accRate L l i n = none → ∀ j, i ≤ j → j < i + n → keepsB L (pieceOf l j) = true
  | 0, i, _, j, h1, h2 => by omega
  | n + 1, i, h, j, h1, h2 => by
    rw [accRate_succ] at h
    by_cases hk : keepsB L (pieceOf l i) = true
    · rw [if_pos hk] at h
      by_cases e : j = i
      · subst e; exact hk
      · exact accRate_all h j (by omega) (by omega)
    · rw [if_neg hk] at h; cases h
theorem accMark_all {M : List Mark} {l : List (Int × Int)} : ∀ {n i : Nat}, (accMark M l i n).2 = 0 → ∀ j, i ≤ j → j < i + n → ((l.getD 0 (0, 0)).1 ≤ mP M j ∧ mP M j ≤ (l.getD (l.length - 1) (0, 0)).1) ∧ meetsB (pieceP l (mP M j)) (M.getD j (0, 0, 0)) = true
  | 0, i, _, j, h1, h2 => by omega
  | n + 1, i, h, j, h1, h2 => by
    rw [accMark_succ] at h
    by_cases hr : (l.getD 0 (0, 0)).1 ≤ (M.getD i (0, 0, 0)).1 ∧ (M.getD i (0, 0, 0)).1 ≤ (l.getD (l.length - 1) (0, 0)).1
    · rw [if_pos hr] at h
      by_cases hm : meetsB (pieceP l (M.getD i (0, 0, 0)).1) (M.getD i (0, 0, 0)) = true
      · rw [if_pos hm] at h
        by_cases e : j = i
        · subst e; exact ⟨hr, hm⟩
        · exact accMark_all h j (by omega) (by omega)
      · rw [if_neg hm] at h; exact absurd (show (13 : Int) = 0 from h) (by decide)
    · rw [if_neg hr] at h; exact absurd (show (14 : Int) = 0 from h) (by decide)
structure AccOk (L : Int × Int) (M : List Mark) (l : List (Int × Int)) : Prop where
  ok : MapOk l
  rate : RateOk L l
  marks : ∀ j, j < M.length → ((l.getD 0 (0, 0)).1 ≤ mP M j ∧ mP M j ≤ (l.getD (l.length - 1) (0, 0)).1) ∧ (atLeast (pieceP l (mP M j)) (mP M j) (M.getD j (0, 0, 0)).2.1 ∧ atMost (pieceP l (mP M j)) (mP M j) (M.getD j (0, 0, 0)).2.2)
theorem AccOk.of {L : Int × Int} {M : List Mark} {l : List (Int × Int)} (hok : MapOk l) (h : (accGo L M l).2 = 0) : AccOk L M l := by
  unfold accGo at h
  cases hr : accRate L l 0 (l.length - 1) with
  | some i => rw [hr] at h; exact absurd h (by show ¬ ((23 : Int) = 0); decide)
  | none =>
    rw [hr] at h
    have hk := accRate_all hr
    have hm := accMark_all (i := 0) (n := M.length) h
    exact ⟨hok, fun i hi => of_decide_eq_true (hk i (Nat.zero_le _) (by omega)), fun j hj => ⟨(hm j (Nat.zero_le _) (by omega)).1, meets_iff.1 (hm j (Nat.zero_le _) (by omega)).2⟩⟩
section
variable {L : Int × Int} {M : List Mark} {l : List (Int × Int)} (ha : AccOk L M l) (he : EvOk L M)
include ha he
theorem AccOk.one {i : Nat} (hi : i < M.length) {q : Int} (hq : (l.getD 0 (0, 0)).1 ≤ q ∧ q ≤ (l.getD (l.length - 1) (0, 0)).1) : (byR L (M.getD i (0, 0, 0)) q).1 ≤ mapTimLo l q ∧ mapTimHi l q ≤ (byR L (M.getD i (0, 0, 0)) q).2 := by
  have hm := ha.ok
  have hlo := hm.lo
  obtain ⟨m1, m2⟩ := ha.marks i hi
  obtain ⟨b1, b2⟩ := by_encloses hm ha.rate he.le (x := M.getD i (0, 0, 0)) (q := q) m1 hq m2
  obtain ⟨a1, _⟩ := atPos_in (l := l) (t := q) (k := l.length - 2) (i := 0) (by omega) hq.1
  have hp : (pieceP l q).1.1 < (pieceP l q).2.1 := (hm.piece a1).pos
  rw [least_lo hp] at b1
  rw [most_hi hp] at b2
  exact ⟨b1, b2⟩
theorem AccOk.enc (h0 : 0 < M.length) {q : Int} (hq : (l.getD 0 (0, 0)).1 ≤ q ∧ q ≤ (l.getD (l.length - 1) (0, 0)).1) : (encTo L M q M.length).1 ≤ mapTimLo l q ∧ mapTimHi l q ≤ (encTo L M q M.length).2 :=
  enc_le h0 fun _ hi => ha.one he hi hq
end
/-! ### Fewer marks -/
theorem mark_mem {M : List Mark} {x : Mark} (h : x ∈ M) : ∃ k, k < M.length ∧ M.getD k (0, 0, 0) = x := by
  obtain ⟨k, hk, e⟩ := List.getElem_of_mem h
  exact ⟨k, hk, by rw [List.getD_eq_getElem?_getD, List.getElem?_eq_getElem hk]; exact e⟩
theorem getD_mem {M : List Mark} {k : Nat} (h : k < M.length) : M.getD k (0, 0, 0) ∈ M := by
  rw [List.getD_eq_getElem?_getD, List.getElem?_eq_getElem h]; exact List.getElem_mem h
theorem pair_iff {M : List Mark} {R : Mark → Mark → Prop} : M.Pairwise R ↔ ∀ i k, i < k → k < M.length → R (M.getD i (0, 0, 0)) (M.getD k (0, 0, 0)) := by
  rw [List.pairwise_iff_getElem]
  constructor
  · intro h i k hik hk
    rw [List.getD_eq_getElem?_getD, List.getElem?_eq_getElem (show i < M.length by omega), List.getD_eq_getElem?_getD, List.getElem?_eq_getElem hk]
    exact h i k _ _ hik
  · intro h i k hi hk hik
    have := h i k hik hk
    rw [List.getD_eq_getElem?_getD, List.getElem?_eq_getElem hi, List.getD_eq_getElem?_getD, List.getElem?_eq_getElem hk] at this
    exact this
theorem EvOk.sub {L : Int × Int} {M N : List Mark} (h : EvOk L M) (hs : N.Sublist M) : EvOk L N := by
  have hm : ∀ i, i < N.length → ∃ k, k < M.length ∧ M.getD k (0, 0, 0) = N.getD i (0, 0, 0) := fun i hi => mark_mem (hs.subset (getD_mem hi))
  refine ⟨h.lo, h.hi, h.le, Nat.le_trans hs.length_le h.len, fun i hi => ?_, fun i hi => ?_, fun i hi => ?_, fun i hi => ?_, fun i hi => ?_⟩
  · obtain ⟨k, hk, e⟩ := hm i hi; rw [← e]; exact h.pos k hk
  · obtain ⟨k, hk, e⟩ := hm i hi; rw [← e]; exact h.t1 k hk
  · obtain ⟨k, hk, e⟩ := hm i hi; rw [← e]; exact h.t2 k hk
  · obtain ⟨k, hk, e⟩ := hm i hi; rw [← e]; exact h.lohi k hk
  · have hp : M.Pairwise (fun a b => a.1 < b.1) := pair_iff.2 fun i k hik hk => h.lt hik hk
    exact pair_iff.1 (hp.sublist hs) i (i + 1) (by omega) hi
theorem NoClash.sub {L : Int × Int} {M N : List Mark} (h : NoClash L M) (hs : N.Sublist M) : NoClash L N := by
  have hp : M.Pairwise (fun a b => clashB L a b = false) := pair_iff.2 h
  exact pair_iff.1 (hp.sublist hs)
theorem ckMarks_from {M : List Mark} : ∀ {i : Nat}, (∀ j, j < i → markO (lastAt M j) (M.getD j (0, 0, 0)) = 0) → i ≤ M.length → ckMarks (-1) 0 M = ckMarks (lastAt M i) i (M.drop i)
  | 0, _, _ => rfl
  | i + 1, h, hi => by
    rw [ckMarks_from (i := i) (fun j hj => h j (by omega)) (by omega), ckMarks_at (by omega), if_neg (by rw [h i (by omega)]; decide)]
theorem EvOk.err {L : Int × Int} {M : List Mark} (h : EvOk L M) : evErrL L M = 0 := by
  have hlen := h.len
  have e1 : limE L M.length = 0 := by unfold limE; rw [if_pos ⟨h.lo, h.hi⟩, firstErr_z, if_pos h.le, firstErr_z, if_pos (by omega), firstErr_z]; rfl
  unfold evErrL ckEv
  rw [if_neg (by rw [e1]; decide), ckMarks_from (i := M.length) (fun j hj => ?_) (Nat.le_refl _), ckMarks_end]
  have hp := h.pos j hj
  have hlast : lastAt M j < (M.getD j (0, 0, 0)).1 := by
    cases j with
    | zero => show (-1 : Int) < _; omega
    | succ j => rw [lastAt_succ]; exact h.up j hj
  unfold markO markE
  rw [if_pos ⟨hp, h.t1 j hj, h.t2 j hj⟩, firstErr_z, if_pos (h.lohi j hj), firstErr_z, if_pos hlast]
  rfl
end Go.Lq


namespace Go.Proofs
open Go.Shelf
def growRen : Go.Shelf.Ren := ⟨fun | 4 => 131 | n => n, fun | 22 => 40 | 25 => 61 | 3 => 3 | 4 => 4 | 9 => 9 | 20 => 20 | 0 => 0 | 2 => 3 | n => n, fun | n => n⟩
theorem growLaid : Go.Proofs.Lays8.n4 Try.prog growRen := {
  mixed := by kernel_rfl
  f4 := ⟨Try.f131.name, by decide, Try.func131.trans (congrArg some (by kernel_rfl))⟩
  t0 := Try.underlying0
  a0 := Try.isAgg0
  z0 := Try.sizeOf0
  v0 := Try.zeroValue0
  t3 := Try.underlying3
  a3 := Try.isAgg3
  z3 := Try.sizeOf3
  v3 := Try.zeroValue3
  t4 := Try.underlying4
  a4 := Try.isAgg4
  z4 := Try.sizeOf4
  v4 := Try.zeroValue4
  t9 := Try.underlying9
  a9 := Try.isAgg9
  z9 := Try.sizeOf9
  v9 := Try.zeroValue9
  t20 := Try.underlying20
  a20 := Try.isAgg20
  z20 := Try.sizeOf20
  v20 := Try.zeroValue20
  t22 := Try.underlying40
  a22 := Try.isAgg40
  z22 := Try.sizeOf40
  v22 := Try.zeroValue40 }
end Go.Proofs
namespace Go.Lq
open Go
open Go.Proofs

section
variable {H : AHeap}
theorem grow_enters : Enters Go.Proofs.Try.prog 131 := ⟨_, Try.func131, by kernel_rfl, by kernel_rfl⟩
theorem node_info : (Go.Proofs.Try.prog.info? 61).map (fun i => (i.zero, i.size, i.bytes)) = some (some (.agg #[.int .i64 0, .int .i64 0]), 2, 16) := by kernel_rfl
theorem grow_c2 {n : Nat} (h0 : 0 < n) (hn : n ≤ 1000000) : ACall Go.Proofs.Try.prog 131 [.slice none 0 0, .int .i64 (n : Nat)] H fun w H' => w = .slice (some ⟨H.length, 0, none⟩) 0 2 ∧ H' = H ++ [.cells true 2 []] := by
  refine ACall.of_row grow_enters fun base β w cargs hi hv => ?_
  obtain ⟨y, y', e, h1, h2⟩ := VRs.two hv
  have e1 := h1.nilS
  have e2 := h2.num
  subst e1; subst e2
  have ec : cargs = #[.slice none 0 0, .int .i64 (n : Nat)] := by rw [← Array.toArray_toList (xs := cargs), e]
  subst ec
  obtain ⟨i0, hi0, he⟩ := Option.map_eq_some_iff.1 node_info
  simp only [Prod.mk.injEq] at he
  obtain ⟨hz, hs, hb⟩ := he
  have := Any8.slices_Grow_grow growLaid i0 _ hi0 hz (by omega) none 0 0 n [] w (Nat.le_refl _) (by omega) (by rw [hb]; omega) (by omega) (by simp) (fun _ => rfl) (fun a h => by cases h)
  refine this.mono fun e' w' ⟨he', hw'⟩ => ?_
  subst hw'
  have hg := grownCap_ge w (0 + n) 0 61
  refine ⟨[], _, 61, 2, 0, 2, _, he', rfl, rfl, rfl, rfl, fun i v h => by simp at h, Nat.zero_le _, fun h => by omega, ?_, rfl, rfl⟩
  show grownCap w (0 + n) 0 61 * 2 ≤ _
  have hzs : ∀ m, (Builtin.zeroCells (Value.agg #[.int .i64 0, .int .i64 0]).cells m).size = m * 2 := fun m => by simp [Builtin.zeroCells, Value.cells]
  rw [Array.size_append, Array.size_append, hzs, hzs]
  show grownCap w (0 + n) 0 61 * 2 ≤ 0 + (0 + n - 0) * 2 + (grownCap w (0 + n) 0 61 - (0 + n)) * 2
  omega
end
end Go.Lq



namespace Go.Lq
open Go
open Go.Proofs

theorem wraps_map {e : Int} : Wraps fun s => .tuple #[.agg ⟨[s]⟩, .int .i64 e] := fun s n a b h => wraps_1 (.int _ _) s n _ _ (wraps_agg1 s n a b h)
def twoErrL (a b : List (Int × Int)) : Int := if mapErrL a ≠ 0 then mapErrL a else mapErrL b
def MapRes (H : AHeap) (out : List (Int × Int)) (e : Int) (v : Value) (H1 : AHeap) : Prop := v = .tuple #[.agg ⟨[retV H out.length]⟩, .int .i64 e] ∧ H1 = H ++ retN 2 out.length (flatP out)
theorem closed_flat2 (l : List (Int × Int)) : ∀ v ∈ flatP l, Closed v := fun v hv => by
  unfold flatP at hv
  obtain ⟨p, _, hp⟩ := List.mem_flatMap.1 hv
  simp only [List.mem_cons, List.not_mem_nil, or_false] at hp
  rcases hp with rfl | rfl <;> exact .int _ _
theorem ACall.mapE {P : Program} {g : FuncId} {args : List Value} {H : AHeap} {out : List (Int × Int)} {e : Int} (h : ACall P g args H fun v H1 => ∃ s, v = .tuple #[.agg ⟨[s]⟩, .int .i64 e] ∧ Ext H H1 ∧ OwnP H H1 out s) : ACall P g args H (MapRes H out e) :=
  ACall.tidy (f := fun s => .tuple #[.agg ⟨[s]⟩, .int .i64 e]) wraps_map (closed_flat2 out) h
def midV (sz : Nat) (v : Value) (lo hi : Nat) : Value := match v with | .slice (some ⟨id, off, none⟩) _ _ => .slice (some ⟨id, off + lo * sz, none⟩) (hi - lo) (if hi = lo then 1 else hi - lo) | v => v
theorem Sl.between {H : AHeap} {sz n : Nat} {vs : List Value} {v : Value} (h : Sl H sz n vs v) {H' : AHeap} {lo hi : Int} {k k' : IntKind} (hn : 0 < n) (h0 : 0 ≤ lo) (h1 : lo ≤ hi) (h2 : hi ≤ n) :
    sliceR sz v (some (.int k lo)) (some (.int k' hi)) none H' = some (midV sz v lo.toNat hi.toNat, H') := by
  rcases h.2 with ⟨rfl, rfl⟩ | ⟨id, off, c, rfl, _⟩
  · omega
  · have e1 : (hi - lo).toNat = hi.toNat - lo.toNat := by omega
    have e2 : (hi = lo) = (hi.toNat = lo.toNat) := by simp; omega
    simp only [sliceR, sliceA, loA, hiA, if_pos (And.intro h0 (And.intro h1 h2)), Option.map_some, midV, e1, e2]
theorem Sl.inner {H : AHeap} {sz n : Nat} {vs : List Value} {v : Value} (h : Sl H sz n vs v) {lo hi : Nat} (h1 : lo ≤ hi) (h2 : hi ≤ n) : Sl H sz (hi - lo) ((vs.drop (lo * sz)).take ((hi - lo) * sz)) (midV sz v lo hi) := by
  obtain ⟨hl, h⟩ := h
  have m1 := Nat.mul_le_mul_right sz h1
  have m2 := Nat.mul_le_mul_right sz h2
  refine ⟨by rw [List.length_take, List.length_drop, hl, Nat.sub_mul]; omega, ?_⟩
  rcases h with ⟨rfl, rfl⟩ | ⟨id, off, c, rfl, hc⟩
  · exact .inl ⟨rfl, by omega⟩
  · refine .inr ⟨id, off + lo * sz, _, rfl, fun hn => ?_⟩
    exact cellsAt_sub (hc (by omega)) (i := lo * sz) (m := (hi - lo) * sz) (by rw [Nat.sub_mul]; omega)
theorem flatP_take (l : List (Int × Int)) (n : Nat) : flatP (l.take n) = (flatP l).take (n * 2) := by
  induction l generalizing n with
  | nil => simp [flatP]
  | cons p l ih =>
    cases n with
    | zero => simp [flatP]
    | succ n =>
      have e : flatP (p :: l) = .int .i64 p.1 :: .int .i64 p.2 :: flatP l := rfl
      have e2 : flatP (p :: l.take n) = .int .i64 p.1 :: .int .i64 p.2 :: flatP (l.take n) := rfl
      rw [List.take_succ_cons, e2, e, ih, show (n + 1) * 2 = n * 2 + 1 + 1 by omega, List.take_succ_cons, List.take_succ_cons]
theorem flatP_drop2 (l : List (Int × Int)) (n : Nat) : flatP (l.drop n) = (flatP l).drop (n * 2) := by
  induction l generalizing n with
  | nil => simp [flatP]
  | cons p l ih =>
    cases n with
    | zero => simp
    | succ n =>
      have e : flatP (p :: l) = .int .i64 p.1 :: .int .i64 p.2 :: flatP l := rfl
      rw [List.drop_succ_cons, e, ih, show (n + 1) * 2 = n * 2 + 1 + 1 by omega, List.drop_succ_cons, List.drop_succ_cons]
theorem Pairs.inner {H : AHeap} {l : List (Int × Int)} {v : Value} (h : Pairs H l v) {lo hi : Nat} (h1 : lo ≤ hi) (h2 : hi ≤ l.length) : Pairs H ((l.drop lo).take (hi - lo)) (midV 2 v lo hi) := by
  have := Sl.inner h h1 h2
  unfold Pairs
  rw [flatP_take, flatP_drop2, List.length_take, List.length_drop, Nat.min_eq_left (by omega)]
  exact this
theorem Pairs.tail {H : AHeap} {l : List (Int × Int)} {v : Value} (h : Pairs H l v) {lo : Nat} (h1 : lo ≤ l.length) : Pairs H (l.drop lo) (fromV 2 v lo) := by
  have := Sl.rest h h1
  unfold Pairs
  rw [flatP_drop2, List.length_drop]
  exact this
section
variable {H : AHeap}
theorem cloneP_c {l : List (Int × Int)} {v : Value} (hX : Pairs H l v) (h0 : 0 < l.length) (hl : l.length ≤ 1000000) : ACall Go.Proofs.Try.prog 115 [v] H (PairsRet H l) := by
  refine ACall.pairs ?_
  have hX' := hX
  rcases hX.2 with ⟨rfl, e⟩ | ⟨jd, off, c, rfl, _⟩
  · omega
  (refine a115 ?_; simp only [n115, List.replicate, yq, yr, yt, yu]; first | refine q1 ?_ | refine q2 ?_ | refine q6 ?_ | refine q7 ?_ | refine qh rfl ?_ | skip)
  (refine yg ?_)
  refine cond_f rfl ?_
  obtain ⟨s, H', h1, h2, id, rfl, h3, h4⟩ := append_copy (bytes := 16) hX' (isAtom_flatP l) (roomOk_of (by omega) (by omega))
  (repeat (first | refine yw ?_ | ((first | apply yd | apply ye); simp (disch := first|exact zz|fail) only [go_sem, h1]; with_reducible rfl)))
  exact fin_1 ⟨h2, flatP_len l, .inr ⟨id, rfl, h3, h0, h4⟩⟩
set_option maxHeartbeats 4000000 in
theorem concat_c {a b : List (Int × Int)} {va vb : Value} {row : Nat} (ha : Pairs H a va) (hb : Pairs H b vb) (h0 : 0 < a.length) (h1 : 0 < b.length) (hl : a.length + b.length ≤ 1000) (hr : H[row]? = some (.cells true 1 [va, vb])) :
    ACall Go.Proofs.Try.prog 116 [.slice (some ⟨row, 0, none⟩) 2 2] H (PairsRet H (a ++ b)) := by
  refine ACall.pairs ?_
  have hrow : Sl H 1 2 [va, vb] (.slice (some ⟨row, 0, none⟩) 2 2) := Sl.of hr rfl
  have hix : ∀ (J : AHeap) (i : Nat), i < 2 → idxR 1 (.slice (some ⟨row, 0, none⟩) 2 2) (.int .i64 (i : Nat)) J = some (.pointer (some ⟨row, i, none⟩), J) := fun J i hi => by
    simp only [idxR]
    rw [if_pos (by omega)]
    simp
  obtain ⟨ml, hml⟩ : ∃ ml : List (List (Int × Int)), ml = [a, b] := ⟨_, rfl⟩
  obtain ⟨mv, hmv⟩ : ∃ mv : List Value, mv = [va, vb] := ⟨_, rfl⟩
  have hP : ∀ i, i < 2 → Pairs H (ml.getD i []) (mv.getD i undef) ∧ 0 < (ml.getD i []).length ∧ (ml.getD i []).length ≤ 1000 := fun i hi => by
    rw [hml, hmv]
    match i, hi with
    | 0, _ => exact ⟨ha, h0, by show a.length ≤ _; omega⟩
    | 1, _ => exact ⟨hb, h1, by show b.length ≤ _; omega⟩
  have hlv : ∀ (J : AHeap) (i : Nat), i < 2 → Ext H J → loadR (.pointer (some ⟨row, i, none⟩)) J = some (mv.getD i undef, J) := fun J i hi hx => by
    rw [load_at (hx.cell hr), hmv]
    match i, hi with
    | 0, _ => rfl
    | 1, _ => rfl
  (refine a116 ?_; simp only [n116, List.replicate, yq, yr, yt, yu]; first | refine q1 ?_ | refine q2 ?_ | refine q6 ?_ | refine q7 ?_ | refine qh rfl ?_ | skip)
  (refine yg ?_)
  refine awp_loop_n [true, false, false, true, false, false, false, false, false, true, true, true, false, false, false, false, false, false, false, false, false, false, false, false, false, false, false, false, false, false, false, false, false, false, false, false] 2 (fun i e J => e = [.slice (some ⟨row, 0, none⟩) 2 2, junk, junk, .int .i64 (((ml.take i).flatten.length : Nat) : Int), junk, junk, junk, junk, junk, .slice (some ⟨row, 0, none⟩) 2 2, .int .i64 ((2 : Nat) : Int), .int .i64 (i : Nat), junk, junk, junk, junk, junk, junk, junk, junk, junk, junk, junk, junk, junk, junk, junk, junk, junk, junk, junk, junk, junk, junk, junk, junk] ∧ J = H) ?_ ?_
  · exact ⟨by simp [forget], rfl⟩
  rintro i e J hi ⟨rfl, rfl⟩
  have hsz : (ml.take i).flatten.length ≤ 1000 := by
    rw [hml]
    match i, hi with
    | 0, _ => simp
    | 1, _ => simp; omega
    | 2, _ => simp; omega
  (refine yg ?_)
  refine cond_p rfl (fun hlt => ?_) (fun hge => ?_)
  · have hi2 : i < 2 := by omega
    have e1 : (i : Int) + 1 = ((i + 1 : Nat) : Int) := by omega
    obtain ⟨p1, p2, p3⟩ := hP i hi2
    have hlen := p1.len (H' := J)
    have es : (ml.take (i + 1)).flatten.length = (ml.take i).flatten.length + (ml.getD i []).length := by
      rw [hml]
      match i, hi2 with
      | 0, _ => simp
      | 1, _ => simp
    have es' : (((ml.take i).flatten.length : Nat) : Int) + (((ml.getD i []).length : Nat) : Int) = (((ml.take (i + 1)).flatten.length : Nat) : Int) := by rw [es]; omega
    (repeat (first | refine yw ?_ | ((first | apply yd | apply ye); simp (disch := first|exact zz|fail) only [go_sem, hix J i hi2, hlv J i hi2 (Ext.refl _), hlen, es']; with_reducible rfl)))
    refine cond_p rfl (fun hneg => absurd hneg (by omega)) (fun _ => ?_)
    (repeat (first | refine yw ?_ | ((first | apply yd | apply ye); simp (disch := first|exact zz|fail) only [go_sem, e1]; with_reducible rfl)))
    exact ⟨hi2, by simp [forget], rfl⟩
  obtain rfl : i = 2 := by omega
  have e2 : (ml.take 2).flatten = a ++ b := by rw [hml]; simp
  rw [e2]
  have hlab : (a ++ b).length = a.length + b.length := List.length_append
  (refine yg ?_)
  refine aops_call ((grow_c2 (H := J) (n := (a ++ b).length) (by omega) (by omega)).mono fun w G ⟨hw, hG⟩ => ?_)
  subst hw
  have xG : Ext J G := ⟨_, hG⟩
  have hown : G[J.length]? = some (.cells true 2 []) := by rw [hG]; exact at_new
  clear hG
  (refine yg ?_)
  refine awp_loop_n [false, false, false, false, false, false, true, false, false, false, false, false, false, false, false, false, false, false, false, false, false, false, false, false, false, true, true, true, false, false, false, false, false, false, false, false] 2 (fun i e K => ∃ tv, e = [junk, junk, junk, junk, junk, junk, tv, junk, junk, junk, junk, junk, junk, junk, junk, junk, junk, junk, junk, junk, junk, junk, junk, junk, junk, .slice (some ⟨row, 0, none⟩) 2 2, .int .i64 ((2 : Nat) : Int), .int .i64 (i : Nat), junk, junk, junk, junk, junk, junk, junk, junk] ∧ Ext J K ∧ ((i = 0 ∧ tv = .slice (some ⟨J.length, 0, none⟩) 0 2 ∧ K[J.length]? = some (.cells true 2 [])) ∨ (0 < i ∧ OwnP J K ((ml.take i).flatten) tv))) ?_ ?_
  · exact ⟨_, by simp [forget], xG, .inl ⟨rfl, rfl, hown⟩⟩
  rintro i e K hi ⟨tv, rfl, xK, htv⟩
  (refine yg ?_)
  refine cond_p rfl (fun hlt => ?_) (fun hge => ?_)
  rotate_left 1
  · obtain rfl : i = 2 := by omega
    rcases htv with ⟨h, _⟩ | ⟨_, h⟩
    · omega
    rw [e2] at h
    (refine yg ?_)
    exact fin_1 ⟨xK, h⟩
  have hi2 : i < 2 := by omega
  have e1 : (i : Int) + 1 = ((i + 1 : Nat) : Int) := by omega
  obtain ⟨p1, p2, p3⟩ := hP i hi2
  have p1K := p1.ext xK
  have et : (ml.take (i + 1)).flatten = (ml.take i).flatten ++ ml.getD i [] := by
    rw [hml]
    match i, hi2 with
    | 0, _ => simp
    | 1, _ => simp
  have hat : (flatP (ml.getD i [])).all isAtom = true := isAtom_flatP _
  rcases htv with ⟨rfl, rfl, ho⟩ | ⟨h0i, ho⟩
  · have happ : appendA 2 16 K (.slice (some ⟨J.length, 0, none⟩) 0 2) (mv.getD 0 undef) = some (.slice (some ⟨K.length, 0, none⟩) (0 + (ml.getD 0 []).length) (0 + (ml.getD 0 []).length), K.set J.length .dead ++ [.cells true 2 ([] ++ flatP (ml.getD 0 []))]) := by
      rcases p1K.2 with ⟨h, h'⟩ | ⟨jd, off, c, hv, hc⟩
      · omega
      · rw [hv]
        obtain ⟨k, hk⟩ : ∃ k, (ml.getD 0 []).length = k + 1 := ⟨(ml.getD 0 []).length - 1, by omega⟩
        have hc' := hc (by omega)
        rw [hk] at hc' ⊢
        have hrm : roomOk 16 (0 + (k + 1)) = true := roomOk_of (by omega) (by omega)
        simp only [appendA, hc', hat, hrm, ho, and_self, if_true]
        simp
    obtain ⟨tv2, htv2⟩ : ∃ tv2, Value.slice (some ⟨K.length, 0, none⟩) (0 + (ml.getD 0 []).length) (0 + (ml.getD 0 []).length) = tv2 := ⟨_, rfl⟩
    rw [htv2] at happ
    (repeat (first | refine yw ?_ | ((first | apply yd | apply ye); simp (disch := first|exact zz|fail) only [go_sem, hix K 0 hi2, hlv K 0 hi2 xK, happ]; with_reducible rfl)))
    (repeat (first | refine yw ?_ | ((first | apply yd | apply ye); simp (disch := first|exact zz|fail) only [go_sem, e1]; with_reducible rfl)))
    refine ⟨hi2, tv2, by simp [forget], (xK.set (Nat.le_refl _) _).app _, .inr ⟨by omega, ?_⟩⟩
    rw [et]
    rw [← htv2]
    refine ⟨by simp [flatP_len], .inr ⟨K.length, by simp, xK.len, by have := p2; simpa using this, ?_⟩⟩
    rw [List.getElem?_append_right (by simp)]
    simp
  · have happ := Own.append (bytes := 16) ho (w := mv.getD i undef) (m := (ml.getD i []).length) (cs := flatP (ml.getD i [])) p1K p2 hat (roomOk_of (by have := hsz; rw [hml] at *; match i, hi2 with | 0, _ => omega | 1, _ => simp; omega) (by rw [hml]; match i, hi2 with | 0, _ => omega | 1, _ => simp; omega))
    obtain ⟨tv2, htv2⟩ : ∃ tv2, Value.slice (some ⟨K.length, 0, none⟩) ((ml.take i).flatten.length + (ml.getD i []).length) ((ml.take i).flatten.length + (ml.getD i []).length) = tv2 := ⟨_, rfl⟩
    rw [htv2] at happ
    (repeat (first | refine yw ?_ | ((first | apply yd | apply ye); simp (disch := first|exact zz|fail) only [go_sem, hix K i hi2, hlv K i hi2 xK, happ]; with_reducible rfl)))
    (repeat (first | refine yw ?_ | ((first | apply yd | apply ye); simp (disch := first|exact zz|fail) only [go_sem, e1]; with_reducible rfl)))
    refine ⟨hi2, tv2, by simp [forget], Own.ext ho xK, .inr ⟨by omega, ?_⟩⟩
    rw [et]
    have := Own.appended ho (m := (ml.getD i []).length) (cs := flatP (ml.getD i [])) (by rw [flatP_len]) p2 xK.len
    rw [htv2] at this
    unfold OwnP
    rw [List.length_append, flatP_append]
    exact this
end
end Go.Lq

namespace Go.Lq
open Go
open Go.Proofs

def partErr (l : List (Int × Int)) (x y : Int) : Int := firstErr [mapErrL l, (if (0 ≤ x ∧ x ≤ (l.length : Int) - 1) ∧ (0 ≤ y ∧ y ≤ (l.length : Int) - 1) then 0 else 6), (if x < y then 0 else 10)]
def partL (l : List (Int × Int)) (x y : Int) : List (Int × Int) := if partErr l x y = 0 then (l.drop x.toNat).take (y.toNat + 1 - x.toNat) else []
def joinErr (a b : List (Int × Int)) : Int := if twoErrL a b ≠ 0 then twoErrL a b else firstErr [(if a.getD (a.length - 1) (0, 0) = b.getD 0 (0, 0) then 0 else 14), (if (a.length : Int) + (b.length : Int) - 1 ≤ 20 then 0 else 8)]
def joinL (a b : List (Int × Int)) : List (Int × Int) := if joinErr a b = 0 then a ++ b.drop 1 else []
theorem two_zero {a b : List (Int × Int)} (h : twoErrL a b = 0) : mapErrL a = 0 ∧ mapErrL b = 0 := by
  unfold twoErrL at h
  by_cases h1 : mapErrL a ≠ 0
  · rw [if_pos h1] at h; exact absurd h h1
  · rw [if_neg h1] at h; exact ⟨Decidable.not_not.1 h1, h⟩
theorem part_ok {l : List (Int × Int)} {x y : Int} (h : partErr l x y = 0) : MapOk l ∧ (0 ≤ x ∧ x ≤ (l.length : Int) - 1) ∧ (0 ≤ y ∧ y ≤ (l.length : Int) - 1) ∧ x < y := by
  unfold partErr at h
  by_cases h1 : mapErrL l = 0
  · rw [h1, firstErr_z] at h
    obtain ⟨a, b⟩ := two_err (by decide) (by decide) h
    exact ⟨mapErr_ok h1, a.1, a.2, b⟩
  · rw [firstErr_e h1] at h; exact absurd h h1
theorem dec_pair {p q : Int × Int} : decide (p.1 = q.1 ∧ p.2 = q.2) = decide (p = q) := decide_eq_decide.2 ⟨fun h => Prod.ext h.1 h.2, fun h => by rw [h]; exact ⟨rfl, rfl⟩⟩
section
variable {H : AHeap}
set_option maxHeartbeats 4000000 in
theorem spMapErr2_c {a b : List (Int × Int)} {sa sb v : Value} (hv : Sl H 1 2 [sa, sb] v) (ha : Pairs H a sa) (hb : Pairs H b sb) (hla : a.length ≤ 1000000000) (hlb : b.length ≤ 1000000000) : ACall Go.Proofs.Try.prog 85 [v] H fun w H' => w = .int .i64 (twoErrL a b) ∧ H' = H := by
  refine ACall.drop (.int _ _) ?_
  obtain ⟨ml, hml⟩ : ∃ ml : List (List (Int × Int)), ml = [a, b] := ⟨_, rfl⟩
  obtain ⟨mv, hmv⟩ : ∃ mv : List Value, mv = [sa, sb] := ⟨_, rfl⟩
  have hP : ∀ i, i < 2 → Pairs H (ml.getD i []) (mv.getD i undef) ∧ (ml.getD i []).length ≤ 1000000000 := fun i hi => by
    rw [hml, hmv]
    match i, hi with
    | 0, _ => exact ⟨ha, hla⟩
    | 1, _ => exact ⟨hb, hlb⟩
  have hix : ∀ (J : AHeap) (i : Nat), i < 2 → idxR 1 v (.int .i64 (i : Nat)) J = some (addrOf v i, J) := fun J i hi => by
    have := hv.idx (i := (i : Int)) (k := .i64) (H' := J) (by omega) (by omega)
    simpa using this
  have hld : ∀ (J : AHeap) (i : Nat), i < 2 → Ext H J → loadNR 1 (addrOf v i) J = some (.agg ⟨[mv.getD i undef]⟩, J) := fun J i hi hx => by
    have := Sl.loadN (k := i) (m := 1) hv hx (by omega) (by omega)
    rw [this, hmv]
    match i, hi with
    | 0, _ => rfl
    | 1, _ => rfl
  (refine a85 ?_; simp only [n85, List.replicate, yq, yr, yt, yu]; first | refine q1 ?_ | refine q2 ?_ | refine q6 ?_ | refine q7 ?_ | refine qh rfl ?_ | skip)
  (repeat (first | refine yw ?_ | ((first | apply yd | apply ye); simp (disch := first|exact zz|fail) only [go_sem, hv.len]; with_reducible rfl)))
  refine awp_loop_n [false, false, false, false, false, false, false, true, true, true, false, false, false, false, false, false, false, false, false, false, false, false] 2 (fun i e H' => Ext H H' ∧ (∀ j, j < i → mapErrL (ml.getD j []) = 0) ∧ e = [junk, junk, junk, junk, junk, junk, junk, v, .int .i64 ((2 : Nat) : Int), .int .i64 (i : Nat), junk, junk, junk, junk, junk, junk, junk, junk, junk, junk, junk, junk]) ?_ ?_
  · exact ⟨Ext.refl _, fun j h => by omega, by simp [forget]⟩
  rintro i e H' hi ⟨x1, hz, rfl⟩
  (refine yg ?_)
  refine cond_p rfl (fun hlt => ?_) (fun hge => ?_)
  rotate_left 1
  · obtain rfl : i = 2 := by omega
    have e0 := hz 0 (by omega)
    have e1 := hz 1 (by omega)
    rw [hml] at e0 e1
    have e0 : mapErrL a = 0 := e0
    have e1 : mapErrL b = 0 := e1
    have : twoErrL a b = 0 := by unfold twoErrL; rw [if_neg (fun h => h e0), e1]
    rw [this]
    (refine yg ?_)
    exact fin_1 ⟨rfl, x1⟩
  have hi2 : i < 2 := by omega
  have e1 : (i : Int) + 1 = ((i + 1 : Nat) : Int) := by omega
  obtain ⟨p1, p2⟩ := hP i hi2
  have hst : storeR 1 (.pointer (some ⟨H'.length, 0, none⟩)) (.agg ⟨[mv.getD i undef]⟩) (H' ++ [AObj.cells true 0 [.slice none 0 0]]) = some (undef, H' ++ [AObj.cells true 0 [mv.getD i undef]]) := store_newN (by simp only [List.all_cons, List.all_nil, p1.atom, Bool.and_self]) rfl rfl
  have b4 : (H' ++ [AObj.cells true 0 [mv.getD i undef]])[H'.length]? = some (.cells true 0 [mv.getD i undef]) := at_new
  have x2 := x1.app [AObj.cells true 0 [mv.getD i undef]]
  have htwo : mapErrL (ml.getD i []) ≠ 0 → twoErrL a b = mapErrL (ml.getD i []) := fun hne => by
    match i, hi2 with
    | 0, _ => rw [hml] at hne ⊢; exact if_pos hne
    | 1, _ =>
      have e0 := hz 0 (by omega)
      rw [hml] at e0 ⊢
      exact if_neg (fun h => h e0)
  (repeat (first | refine yw ?_ | ((first | apply yd | apply ye); simp (disch := first|exact zz|fail) only [go_sem, hix H' i hi2, hld H' i hi2 x1, hst, n1_at b4]; with_reducible rfl)))
  refine aops_call_to (spCheckMap_c (p1.ext x2) p2) ?_
  have ee : (ckMap (ml.getD i [])).2 = mapErrL (ml.getD i []) := rfl
  rw [ee]
  (refine yg ?_)
  refine cond_p rfl (fun hne => ?_) (fun heq => ?_)
  · (refine yg ?_)
    exact fin_1 ⟨by rw [htwo hne]; rfl, x2⟩
  · (repeat (first | refine yw ?_ | ((first | apply yd | apply ye); simp (disch := first|exact zz|fail) only [go_sem, e1]; with_reducible rfl)))
    refine ⟨hi2, x2, fun j hj => ?_, by simp [forget]⟩
    by_cases hji : j = i
    · subst hji; exact Decidable.not_not.1 heq
    · exact hz j (by omega)
theorem isNode_c {l : List (Int × Int)} {v : Value} {id : Nat} (x : Int) (h : H[id]? = some (.cells true 0 [v])) (hl : Pairs H l v) (hb : l.length ≤ 1000000) :
    ACall Go.Proofs.Try.prog 114 [.int .i64 x, .pointer (some ⟨id, 0, none⟩)] H fun w H' => w = .bool (decide (0 ≤ x ∧ x ≤ (l.length : Int) - 1)) ∧ H' = H := by
  (refine a114 ?_; simp only [n114, List.replicate, yq, yr, yt, yu]; first | refine q1 ?_ | refine q2 ?_ | refine q6 ?_ | refine q7 ?_ | refine qh rfl ?_ | skip)
  (repeat (first | refine yw ?_ | ((first | apply yd | apply ye); simp (disch := first|exact zz|fail) only [go_sem, hl.len, hl.idx, hl.load, load_at h]; with_reducible rfl)))
  (refine aops_call_to (swithin_c _ _ _) ?_)
  (refine yg ?_)
  exact fin_1 ⟨rfl, rfl⟩
set_option maxHeartbeats 8000000 in
theorem part_c {l : List (Int × Int)} {v : Value} {x y : Int} (hl : Pairs H l v) (hb : l.length ≤ 1000000) : ACall Go.Proofs.Try.prog 60 [.agg ⟨[v]⟩, .int .i64 x, .int .i64 y] H (MapRes H (partL l x y) (partErr l x y)) := by
  refine ACall.mapE ?_
  (refine a60 ?_; simp only [n60, List.replicate, yq, yr, yt, yu]; first | refine q1 ?_ | refine q2 ?_ | refine q6 ?_ | refine q7 ?_ | refine qh rfl ?_ | skip)
  obtain ⟨G, hG⟩ : ∃ G, G = H ++ [AObj.cells true 0 [v]] ++ [AObj.cells true 0 [.slice none 0 0]] := ⟨_, rfl⟩
  have g0 : G[H.length]? = some (.cells true 0 [v]) := by rw [hG]; simp
  have g1 : G[H.length + 1]? = some (.cells true 0 [.slice none 0 0]) := by rw [hG]; simp
  have xG : Ext H G := by rw [hG]; exact ((Ext.refl H).app _).app _
  (repeat (first | refine yv ?_ | (apply yd; simp (disch := first|exact zz|fail) only [go_sem, hl.box1]; with_reducible rfl)))
  (simp only [List.length_append, List.length_cons, List.length_nil, Nat.zero_add, Nat.add_assoc, Nat.reduceAdd])
  rw [← hG]
  clear hG
  have hlG := hl.ext xG
  have va := hl.atom
  have hf1 : fillA [.slice none 0 0] [(0, 1, .agg ⟨[v]⟩)] = some [v] := by simp [fillA, Value.cells, setCells, va]
  have hma : ([v] : List Value).all isAtom = true := by simp [va]
  (repeat (first | refine yw ?_ | ((first | apply yd | apply ye); simp (disch := first|exact zz|fail) only [go_sem, n1_at g0, hf1]; with_reducible rfl)))
  have hS : Sl (G ++ [.cells true 1 [v]]) 1 1 [v] (.slice (some ⟨G.length, 0, none⟩) 1 1) := Sl.last rfl 1
  have x1 : Ext G (G ++ [AObj.cells true 1 [v]]) := (Ext.refl G).app _
  generalize (G ++ [AObj.cells true 1 [v]] : AHeap) = G1 at hS x1
  have k0 := x1.cell g0
  have k1 := x1.cell g1
  have hl1 := hlG.ext x1
  (refine aops_call_to (spMapErr_c hS hl1 (by omega)) ?_)
  (refine yg ?_)
  (refine aops_call_to (isNode_c x k0 hl1 hb) ?_)
  by_cases hx : 0 ≤ x ∧ x ≤ (l.length : Int) - 1
  rotate_left 1
  · have hne : partErr l x y ≠ 0 := fun h => hx (part_ok h).2.1
    have eo : partL l x y = [] := if_neg hne
    have ee : firstErr [mapErrL l, 6, (if decide (x < y) = true then 0 else 10)] = partErr l x y := by
      have hh : ¬ ((0 ≤ x ∧ x ≤ (l.length : Int) - 1) ∧ (0 ≤ y ∧ y ≤ (l.length : Int) - 1)) := fun h => hx h.1
      unfold partErr; simp only [if_neg hh, decide_eq_true_eq]
    rw [eo]
    (repeat (first | refine yw ?_ | ((first | apply yd | apply ye); simp (disch := first|exact zz|fail) only [go_sem, dec_f hx]; with_reducible rfl)))
    (refine aops_call_to (sunless_c _ _) ?_)
    (refine yg ?_)
    (refine aops_call_to (sunless_c _ _) ?_)
    (refine yg ?_)
    (refine aops_call_to (sfirst_c (l := [_, _, _]) (Ints.last (l := [_, _, _]) 3) (by simp)) ?_)
    rw [ee]
    have x2 : Ext G1 (G1 ++ [AObj.cells true 1 [.int .i64 (mapErrL l), .int .i64 6, .int .i64 (if decide (x < y) = true then 0 else 10)]]) := (Ext.refl G1).app _
    generalize (G1 ++ [AObj.cells true 1 [.int .i64 (mapErrL l), .int .i64 6, .int .i64 (if decide (x < y) = true then 0 else 10)]] : AHeap) = G2 at x2
    have k1 := x2.cell k1
    (repeat (first | refine yw ?_ | ((first | apply yd | apply ye); simp (disch := first|exact zz|fail) only [go_sem, dec_t hne]; with_reducible rfl)))
    refine cond_t rfl ?_
    (repeat (first | refine yw ?_ | ((first | apply yd | apply ye); simp (disch := first|exact zz|fail) only [go_sem, fill_none, store_a1 (y := .slice none 0 0) k1 rfl]; with_reducible rfl)))
    exact fin_l2a rfl (get_set_self k1) ⟨_, rfl, ((xG.trans x1).trans x2).set (by omega) _, OwnP.nil _ _⟩
  (repeat (first | refine yw ?_ | ((first | apply yd | apply ye); simp (disch := first|exact zz|fail) only [go_sem, dec_t hx]; with_reducible rfl)))
  (refine aops_call_to (isNode_c y k0 hl1 hb) ?_)
  (refine yg ?_)
  (refine aops_call_to (sunless_c _ _) ?_)
  (refine yg ?_)
  (refine aops_call_to (sunless_c _ _) ?_)
  (refine yg ?_)
  (refine aops_call_to (sfirst_c (l := [_, _, _]) (Ints.last (l := [_, _, _]) 3) (by simp)) ?_)
  have ee : firstErr [mapErrL l, (if decide (0 ≤ y ∧ y ≤ (l.length : Int) - 1) = true then 0 else 6), (if decide (x < y) = true then 0 else 10)] = partErr l x y := by
    unfold partErr; simp only [decide_eq_true_eq, hx, true_and]
  rw [ee]
  obtain ⟨N2, hN2⟩ : ∃ N2, N2 = [AObj.cells true 1 [.int .i64 (mapErrL l), .int .i64 (if decide (0 ≤ y ∧ y ≤ (l.length : Int) - 1) = true then 0 else 6), .int .i64 (if decide (x < y) = true then 0 else 10)]] := ⟨_, rfl⟩
  rw [← hN2]
  clear hN2 ee
  have x2 : Ext G1 (G1 ++ N2) := (Ext.refl G1).app _
  generalize (G1 ++ N2 : AHeap) = G2 at x2
  have k0 := x2.cell k0
  have k1 := x2.cell k1
  have hl2 := hl1.ext x2
  have xH2 := (xG.trans x1).trans x2
  (refine yg ?_)
  refine cond_p rfl (fun hne => ?_) (fun heq => ?_)
  · have eo : partL l x y = [] := if_neg hne
    rw [eo]
    (repeat (first | refine yw ?_ | ((first | apply yd | apply ye); simp (disch := first|exact zz|fail) only [go_sem, fill_none, store_a1 (y := .slice none 0 0) k1 rfl]; with_reducible rfl)))
    exact fin_l2a rfl (get_set_self k1) ⟨_, rfl, xH2.set (by omega) _, OwnP.nil _ _⟩
  have hz := Decidable.not_not.1 heq
  obtain ⟨hok, -, hy, hxy⟩ := part_ok hz
  have h20 := hok.hi
  have hmid := fun J : AHeap => Sl.between hl2 (H' := J) (lo := x) (hi := y + 1) (k := .i64) (k' := .i64) (by omega) (by omega) (by omega) (by omega)
  have hin := hl2.inner (lo := x.toNat) (hi := (y + 1).toNat) (by omega) (by omega)
  have eo : partL l x y = (l.drop x.toNat).take ((y + 1).toNat - x.toNat) := by
    unfold partL; rw [if_pos hz]; congr 1; omega
  rw [eo, hz]
  have hlen : ((l.drop x.toNat).take ((y + 1).toNat - x.toNat)).length = (y + 1).toNat - x.toNat := by rw [List.length_take, List.length_drop]; omega
  generalize (l.drop x.toNat).take ((y + 1).toNat - x.toNat) = out at *
  (repeat (first | refine yw ?_ | ((first | apply yd | apply ye); simp (disch := first|exact zz|fail) only [go_sem, load_at k0, hmid]; with_reducible rfl)))
  refine aops_call ((cloneP_c hin (by omega) (by omega)).mono fun w G3 ⟨hw, hG3⟩ => ?_)
  have x3 : Ext G2 G3 := ⟨_, hG3⟩
  have hown : OwnP H G3 out w := by
    rw [hw, hG3]
    refine ⟨flatP_len out, ?_⟩
    unfold retV retN
    rw [if_neg (by omega), if_neg (by omega)]
    exact .inr ⟨G2.length, rfl, xH2.len, by omega, at_new⟩
  have hwa : isAtom w = true := hown.pairs.atom
  have hfw : fillA [.slice none 0 0] [(0, 1, w)] = some [w] := by
    rw [hw]; unfold retV; split <;> rfl
  clear hw hG3
  have k1 := x3.cell k1
  (repeat (first | refine yw ?_ | ((first | apply yd | apply ye); simp (disch := first|exact zz|fail) only [go_sem, hfw, store_a1 (y := w) k1 hwa]; with_reducible rfl)))
  refine fin_l2a rfl (get_set_self k1) ⟨w, rfl, (xH2.trans x3).set (by omega) _, ?_⟩
  refine OwnP.set_ne hown ?_ _
  rcases hown.2 with ⟨h, _⟩ | ⟨id, rfl, h, _, hc⟩
  · exact .inl h
  · refine .inr fun e => ?_
    have e : id = H.length + 1 := e
    subst e
    rw [k1] at hc
    have := (AObj.cells.inj (Option.some.inj hc)).2.1
    cases this
set_option maxHeartbeats 4000000 in
theorem sameMap_c {a b : List (Int × Int)} {va vb : Value} (ha : Pairs H a va) (hb : Pairs H b vb) (hl : a.length ≤ 1000000) :
    ACall Go.Proofs.Try.prog 62 [.agg ⟨[va]⟩, .agg ⟨[vb]⟩] H fun v H' => v = .bool (decide (a = b)) ∧ H' = H := by
  refine ACall.drop (.bool _) ?_
  (refine a62 ?_; simp only [n62, List.replicate, yq, yr, yt, yu]; first | refine q1 ?_ | refine q2 ?_ | refine q6 ?_ | refine q7 ?_ | refine qh rfl ?_ | skip)
  obtain ⟨G, hG⟩ : ∃ G, G = H ++ [AObj.cells true 0 [va]] ++ [AObj.cells true 0 [vb]] := ⟨_, rfl⟩
  have g0 : G[H.length]? = some (.cells true 0 [va]) := by rw [hG]; simp
  have g1 : G[H.length + 1]? = some (.cells true 0 [vb]) := by rw [hG]; simp
  have xG : Ext H G := by rw [hG]; exact ((Ext.refl H).app _).app _
  (repeat (first | refine yv ?_ | (apply yd; simp (disch := first|exact zz|fail) only [go_sem, ha.box1, hb.box1]; with_reducible rfl)))
  (simp only [List.length_append, List.length_cons, List.length_nil, Nat.zero_add, Nat.add_assoc, Nat.reduceAdd])
  rw [← hG]
  clear hG
  have ka := ha.ext xG
  have kb := hb.ext xG
  (repeat (first | refine yw ?_ | ((first | apply yd | apply ye); simp (disch := first|exact zz|fail) only [go_sem, ka.len, ka.idx, ka.load, kb.len, kb.idx, kb.load, load_at g0, load_at g1]; with_reducible rfl)))
  refine cond_p rfl (fun hne => ?_) (fun heq => ?_)
  · (refine yg ?_)
    exact fin_1 ⟨congrArg Value.bool (dec_f (fun h => by subst h; omega)).symm, xG⟩
  have he : a.length = b.length := by omega
  (refine yg ?_)
  refine awp_loop_n [false, false, true, true, false, true, false, false, false, false, false, false, false, false, false, false, false, false, false, false, false, false, false, false, false, false, false, false, false, false, false] a.length (fun i e J => J = G ∧ e = [junk, junk, .pointer (some ⟨H.length, 0, none⟩), .pointer (some ⟨H.length + 1, 0, none⟩), junk, .int .i64 (i : Nat), junk, junk, junk, junk, junk, junk, junk, junk, junk, junk, junk, junk, junk, junk, junk, junk, junk, junk, junk, junk, junk, junk, junk, junk, junk] ∧ ∀ j : Nat, j < i → a.getD j (0, 0) = b.getD j (0, 0)) ?_ ?_
  · exact ⟨rfl, by simp [forget], by omega⟩
  rintro i e J hi ⟨rfl, rfl, hbef⟩
  have e1 : (i : Int) + 1 = ((i + 1 : Nat) : Int) := by omega
  (repeat (first | refine yw ?_ | ((first | apply yd | apply ye); simp (disch := first|exact zz|fail) only [go_sem, ka.len, ka.idx, ka.load, load_at g0]; with_reducible rfl)))
  refine cond_p rfl (fun hlt => ?_) (fun hge => ?_)
  rotate_left 1
  · (refine yg ?_)
    exact fin_1 ⟨congrArg Value.bool (dec_t (ext_getD (d := (0, 0)) he fun j hj => hbef j (by omega))).symm, xG⟩
  have hi' : i < a.length := by omega
  by_cases hab : a.getD i (0, 0) = b.getD i (0, 0)
  · (repeat (first | refine yw ?_ | ((first | apply yd | apply ye); simp (disch := first|exact zz|fail) only [go_sem, ka.len, ka.idx, ka.load, kb.len, kb.idx, kb.load, load_at g0, load_at g1, eq_pair, dec_pair, dec_t hab]; with_reducible rfl)))
    refine cond_f rfl ?_
    (repeat (first | refine yw ?_ | ((first | apply yd | apply ye); simp (disch := first|exact zz|fail) only [go_sem, e1]; with_reducible rfl)))
    refine ⟨hi', rfl, by simp [forget], fun j hj => ?_⟩
    by_cases hji : j = i
    · subst hji; exact hab
    · exact hbef j (by omega)
  · (repeat (first | refine yw ?_ | ((first | apply yd | apply ye); simp (disch := first|exact zz|fail) only [go_sem, ka.len, ka.idx, ka.load, kb.len, kb.idx, kb.load, load_at g0, load_at g1, eq_pair, dec_pair, dec_f hab]; with_reducible rfl)))
    refine cond_t rfl ?_
    (refine yg ?_)
    exact fin_1 ⟨congrArg Value.bool (dec_f (fun h => hab (by rw [h]))).symm, xG⟩
set_option maxHeartbeats 8000000 in
theorem joined_c {a b : List (Int × Int)} {va vb : Value} (ha : Pairs H a va) (hb : Pairs H b vb) (hla : a.length ≤ 1000000) (hlb : b.length ≤ 1000000) : ACall Go.Proofs.Try.prog 61 [.agg ⟨[va]⟩, .agg ⟨[vb]⟩] H (MapRes H (joinL a b) (joinErr a b)) := by
  refine ACall.mapE ?_
  (refine a61 ?_; simp only [n61, List.replicate, yq, yr, yt, yu]; first | refine q1 ?_ | refine q2 ?_ | refine q6 ?_ | refine q7 ?_ | refine qh rfl ?_ | skip)
  obtain ⟨G, hG⟩ : ∃ G, G = H ++ [AObj.cells true 0 [va]] ++ [AObj.cells true 0 [vb]] ++ [AObj.cells true 0 [.slice none 0 0]] := ⟨_, rfl⟩
  have g0 : G[H.length]? = some (.cells true 0 [va]) := by rw [hG]; simp
  have g1 : G[H.length + 1]? = some (.cells true 0 [vb]) := by rw [hG]; simp
  have g2 : G[H.length + 2]? = some (.cells true 0 [.slice none 0 0]) := by rw [hG]; simp
  have xG : Ext H G := by rw [hG]; exact (((Ext.refl H).app _).app _).app _
  (repeat (first | refine yv ?_ | (apply yd; simp (disch := first|exact zz|fail) only [go_sem, ha.box1, hb.box1]; with_reducible rfl)))
  (simp only [List.length_append, List.length_cons, List.length_nil, Nat.zero_add, Nat.add_assoc, Nat.reduceAdd])
  rw [← hG]
  clear hG
  have ka := ha.ext xG
  have kb := hb.ext xG
  have aa := ha.atom
  have ab := hb.atom
  have hf2 : fillA [.slice none 0 0, .slice none 0 0] [(0, 1, .agg ⟨[va]⟩), (1, 1, .agg ⟨[vb]⟩)] = some [va, vb] := by simp [fillA, Value.cells, setCells, aa, ab]
  have hma : ([va, vb] : List Value).all isAtom = true := by simp [aa, ab]
  (repeat (first | refine yw ?_ | ((first | apply yd | apply ye); simp (disch := first|exact zz|fail) only [go_sem, n1_at g0, n1_at g1, hf2]; with_reducible rfl)))
  have hS : Sl (G ++ [.cells true 1 [va, vb]]) 1 2 [va, vb] (.slice (some ⟨G.length, 0, none⟩) 2 2) := Sl.last rfl 2
  have x1 : Ext G (G ++ [AObj.cells true 1 [va, vb]]) := (Ext.refl G).app _
  generalize (G ++ [AObj.cells true 1 [va, vb]] : AHeap) = G1 at hS x1
  have g0 := x1.cell g0
  have g1 := x1.cell g1
  have g2 := x1.cell g2
  have ka := ka.ext x1
  have kb := kb.ext x1
  have xH1 := xG.trans x1
  (refine aops_call_to (spMapErr2_c hS ka kb (by omega) (by omega)) ?_)
  (refine yg ?_)
  refine cond_p (p := twoErrL a b ≠ 0) rfl (fun hne => ?_) (fun heq => ?_)
  · have ej : joinErr a b = twoErrL a b := if_pos hne
    have eo : joinL a b = [] := if_neg (by rw [ej]; exact hne)
    rw [eo, ej]
    (repeat (first | refine yw ?_ | ((first | apply yd | apply ye); simp (disch := first|exact zz|fail) only [go_sem, fill_none, store_a1 (y := .slice none 0 0) g2 rfl]; with_reducible rfl)))
    exact fin_l2a rfl (get_set_self g2) ⟨_, rfl, xH1.set (by omega) _, OwnP.nil _ _⟩
  have hz := Decidable.not_not.1 heq
  obtain ⟨z1, z2⟩ := two_zero hz
  have oka := mapErr_ok z1
  have okb := mapErr_ok z2
  have a2 := oka.lo
  have b2 := okb.lo
  have a20 := oka.hi
  have b20 := okb.hi
  have ixa := ka.idx (H' := G1) (i := (a.length : Int) - 1) (k := .i64) (by omega) (by omega)
  rw [show ((a.length : Int) - 1).toNat = a.length - 1 by omega] at ixa
  have ixb := kb.idx (H' := G1) (i := 0) (k := .i64) (by omega) (by omega)
  rw [show (0 : Int).toNat = 0 from rfl] at ixb
  have lda := (ka.load (Ext.refl G1) (show a.length - 1 < a.length by omega)).1
  have ldb := (kb.load (Ext.refl G1) (show 0 < b.length by omega)).1
  have hka := ka.len (H' := G1)
  have hkb := kb.len (H' := G1)
  (repeat (first | refine yw ?_ | ((first | apply yd | apply ye); simp (disch := first|exact zz|fail) only [go_sem, load_at g0, load_at g1, hka, ixa, ixb, lda, ldb, eq_pair, dec_pair]; with_reducible rfl)))
  (refine adraw_call (N := []) (firstD (sunless_c _ _)) ?_; rw [List.append_nil])
  (repeat (first | refine yw ?_ | ((first | apply yd | apply ye); simp (disch := first|exact zz|fail) only [go_sem, load_at g0, load_at g1, hka, hkb]; with_reducible rfl)))
  (refine adraw_call (N := []) (firstD (sunless_c _ _)) ?_; rw [List.append_nil])
  (refine yg ?_)
  (refine adraw_call (N := []) (firstD (sfirst_c (l := [_, _]) (Ints.last (l := [_, _]) 2) (by simp))) ?_; rw [List.append_nil])
  have ee : firstErr [(if decide (a.getD (a.length - 1) (0, 0) = b.getD 0 (0, 0)) = true then 0 else 14), (if decide ((a.length : Int) + (b.length : Int) - 1 ≤ 20) = true then 0 else 8)] = joinErr a b := by
    unfold joinErr; rw [if_neg heq]; simp only [decide_eq_true_eq]
  rw [ee]
  obtain ⟨N2, hN2⟩ : ∃ N2, N2 = [AObj.cells true 1 [.int .i64 (if decide (a.getD (a.length - 1) (0, 0) = b.getD 0 (0, 0)) = true then 0 else 14), .int .i64 (if decide ((a.length : Int) + (b.length : Int) - 1 ≤ 20) = true then 0 else 8)]] := ⟨_, rfl⟩
  rw [← hN2]
  clear hN2 ee
  have x2 : Ext G1 (G1 ++ N2) := (Ext.refl G1).app _
  generalize (G1 ++ N2 : AHeap) = G2 at x2
  have g0 := x2.cell g0
  have g1 := x2.cell g1
  have g2 := x2.cell g2
  have ka := ka.ext x2
  have kb := kb.ext x2
  have xH2 := xH1.trans x2
  (refine yg ?_)
  refine cond_p rfl (fun hne => ?_) (fun heq2 => ?_)
  · have eo : joinL a b = [] := if_neg hne
    rw [eo]
    (repeat (first | refine yw ?_ | ((first | apply yd | apply ye); simp (disch := first|exact zz|fail) only [go_sem, fill_none, store_a1 (y := .slice none 0 0) g2 rfl]; with_reducible rfl)))
    exact fin_l2a rfl (get_set_self g2) ⟨_, rfl, xH2.set (by omega) _, OwnP.nil _ _⟩
  have hz2 := Decidable.not_not.1 heq2
  have eo : joinL a b = a ++ b.drop 1 := if_pos hz2
  rw [eo, hz2]
  have hdl : (b.drop 1).length = b.length - 1 := List.length_drop
  have hfr := fun J : AHeap => Sl.from kb (H' := J) (lo := (1 : Int)) (k := .i64) (by omega) (by omega) (by omega)
  rw [show (1 : Int).toNat = 1 from rfl] at hfr
  have kt := kb.tail (lo := 1) (by omega)
  have ft := kt.atom
  have hf3 : fillA [.slice none 0 0, .slice none 0 0] [(0, 1, va), (1, 1, fromV 2 vb 1)] = some [va, fromV 2 vb 1] := by
    have e1 : va.cells = ⟨[va]⟩ := by rcases ka.2 with ⟨rfl, _⟩ | ⟨_, _, _, rfl, _⟩ <;> rfl
    have e2 : (fromV 2 vb 1).cells = ⟨[fromV 2 vb 1]⟩ := by rcases kt.2 with ⟨h, _⟩ | ⟨_, _, _, h, _⟩ <;> rw [h] <;> rfl
    simp [fillA, e1, e2, setCells, aa, ft]
  have hma2 : ([va, fromV 2 vb 1] : List Value).all isAtom = true := by simp [aa, ft]
  have hr : (G2 ++ [AObj.cells true 1 [va, fromV 2 vb 1]])[G2.length]? = some (.cells true 1 [va, fromV 2 vb 1]) := at_new
  have x3 : Ext G2 (G2 ++ [AObj.cells true 1 [va, fromV 2 vb 1]]) := (Ext.refl G2).app _
  (repeat (first | refine yw ?_ | ((first | apply yd | apply ye); simp (disch := first|exact zz|fail) only [go_sem, load_at g0, load_at g1, hfr, hf3]; with_reducible rfl)))
  obtain ⟨G3, hG3⟩ : ∃ G3, G2 ++ [AObj.cells true 1 [va, fromV 2 vb 1]] = G3 := ⟨_, rfl⟩
  rw [hG3] at hr x3 ⊢
  clear hG3
  refine adraw_call (N := retN 2 (a ++ b.drop 1).length (flatP (a ++ b.drop 1))) (concat_c (ka.ext x3) (kt.ext x3) (by omega) (by omega) (by omega) hr) ?_
  have hlab : (a ++ b.drop 1).length = a.length + (b.length - 1) := by rw [List.length_append, hdl]
  have xH3 := xH2.trans x3
  have hown : OwnP H (G3 ++ retN 2 (a ++ b.drop 1).length (flatP (a ++ b.drop 1))) (a ++ b.drop 1) (retV G3 (a ++ b.drop 1).length) := by
    refine ⟨flatP_len _, ?_⟩
    unfold retV retN
    rw [if_neg (by omega), if_neg (by omega)]
    exact .inr ⟨G3.length, rfl, xH3.len, by omega, at_new⟩
  have g2 := at_app (N := retN 2 (a ++ b.drop 1).length (flatP (a ++ b.drop 1))) (x3.cell g2)
  have xH4 := xH3.app (retN 2 (a ++ b.drop 1).length (flatP (a ++ b.drop 1)))
  obtain ⟨w, hw⟩ : ∃ w, retV G3 (a ++ b.drop 1).length = w := ⟨_, rfl⟩
  rw [hw] at hown ⊢
  have hwa : isAtom w = true := hown.pairs.atom
  have hfw : fillA [.slice none 0 0] [(0, 1, w)] = some [w] := by
    rw [← hw]; unfold retV; split <;> rfl
  clear hw
  generalize (G3 ++ retN 2 (a ++ b.drop 1).length (flatP (a ++ b.drop 1)) : AHeap) = G4 at hown g2 xH4
  (repeat (first | refine yw ?_ | ((first | apply yd | apply ye); simp (disch := first|exact zz|fail) only [go_sem, hfw, store_a1 (y := w) g2 hwa]; with_reducible rfl)))
  refine fin_l2a rfl (get_set_self g2) ⟨w, rfl, xH4.set (by omega) _, ?_⟩
  refine OwnP.set_ne hown ?_ _
  rcases hown.2 with ⟨h, _⟩ | ⟨id, rfl, h, _, hc⟩
  · exact .inl h
  · refine .inr fun e => ?_
    have e : id = H.length + 2 := e
    subst e
    rw [g2] at hc
    have := (AObj.cells.inj (Option.some.inj hc)).2.1
    cases this
end
end Go.Lq

namespace Go.Lq

theorem getD_take {l : List (Int × Int)} {n i : Nat} (h : i < n) : (l.take n).getD i (0, 0) = l.getD i (0, 0) := by
  rw [List.getD_eq_getElem?_getD, List.getD_eq_getElem?_getD, List.getElem?_take, if_pos h]
theorem getD_drop {l : List (Int × Int)} {n i : Nat} : (l.drop n).getD i (0, 0) = l.getD (n + i) (0, 0) := by
  rw [List.getD_eq_getElem?_getD, List.getD_eq_getElem?_getD, List.getElem?_drop]
theorem MapOk.take {l : List (Int × Int)} (h : MapOk l) {n : Nat} (h2 : 2 ≤ n) (hn : n ≤ l.length) : MapOk (l.take n) := by
  have hl : (l.take n).length = n := by rw [List.length_take]; omega
  have h20 := h.hi
  refine ⟨by omega, by omega, fun i hi => ?_, fun i hi => ?_, fun i hi => ?_, fun i hi => ?_⟩
  · rw [getD_take (by omega)]; exact h.pos i (by omega)
  · rw [getD_take (by omega)]; exact h.time i (by omega)
  · rw [getD_take (by omega), getD_take (by omega)]; exact h.posUp i (by omega)
  · rw [getD_take (by omega), getD_take (by omega)]; exact h.timeUp i (by omega)
theorem MapOk.drop {l : List (Int × Int)} (h : MapOk l) {n : Nat} (hn : n + 2 ≤ l.length) : MapOk (l.drop n) := by
  have hl : (l.drop n).length = l.length - n := List.length_drop
  have h20 := h.hi
  refine ⟨by omega, by omega, fun i hi => ?_, fun i hi => ?_, fun i hi => ?_, fun i hi => ?_⟩
  · rw [getD_drop]; exact h.pos _ (by omega)
  · rw [getD_drop]; exact h.time _ (by omega)
  · rw [getD_drop, getD_drop]; exact h.posUp (n + i) (by omega)
  · rw [getD_drop, getD_drop]; exact h.timeUp (n + i) (by omega)
end Go.Lq

namespace Go.Lq
open Go
open Go.Proofs

theorem cellsTwo : Try.prog.cellsOf 70 = 2 := by kernel_rfl
set_option maxRecDepth 100000 in
theorem repTwo {H : AHeap} {v : Value} (h : RepA Try.prog H 70 v) : ∃ a b, v = .agg ⟨[.int .i64 a, .int .i64 b]⟩ ∧ InI64 a ∧ InI64 b := by
  obtain ⟨acs, rfl, hr⟩ := h.array Try.underlying70
  obtain ⟨hl, hf⟩ := hr.array_inv Try.underlying70
  rw [cellsTwo] at hl
  rw [cells3] at hf
  match acs, hl with
  | [x, y], _ =>
    obtain ⟨a, ea, wa⟩ := (hf 0 (by omega)).int_inv Try.underlying3
    obtain ⟨b, eb, wb⟩ := (hf 1 (by omega)).int_inv Try.underlying3
    have ea' : [x] = [.int .i64 a] := ea
    have eb' : [y] = [.int .i64 b] := eb
    cases ea'; cases eb'
    exact ⟨a, b, rfl, wf_i64 wa, wf_i64 wb⟩
theorem idxA20 {id : Nat} {J : AHeap} : idxAR 2 1 (.pointer (some ⟨id, 0, none⟩)) (.int .i64 0) J = some (.pointer (some ⟨id, 0, none⟩), J) := rfl
theorem idxA21 {id : Nat} {J : AHeap} : idxAR 2 1 (.pointer (some ⟨id, 0, none⟩)) (.int .i64 1) J = some (.pointer (some ⟨id, 1, none⟩), J) := rfl
attribute [go_sem] r_idxA idxA20 idxA21

end Go.Lq

namespace Go.Lq
open Go
open Go.Proofs

theorem join_parts {l : List (Int × Int)} (h : MapOk l) {n : Nat} (h0 : 0 < n) (hn : n + 1 < l.length) : partErr l 0 (n : Nat) = 0 ∧ partL l 0 (n : Nat) = l.take (n + 1) ∧ partErr l (n : Nat) ((l.length : Int) - 1) = 0 ∧ partL l (n : Nat) ((l.length : Int) - 1) = l.drop n ∧
    joinErr (l.take (n + 1)) (l.drop n) = 0 ∧ joinL (l.take (n + 1)) (l.drop n) = l := by
  have h20 := h.hi
  have e1 : partErr l 0 (n : Nat) = 0 := by unfold partErr; rw [h.err, firstErr_z, if_pos (by omega), firstErr_z, if_pos (by omega), firstErr_z]; rfl
  have e2 : partErr l (n : Nat) ((l.length : Int) - 1) = 0 := by unfold partErr; rw [h.err, firstErr_z, if_pos (by omega), firstErr_z, if_pos (by omega), firstErr_z]; rfl
  have l1 : (l.take (n + 1)).length = n + 1 := by rw [List.length_take]; omega
  have l2 : (l.drop n).length = l.length - n := List.length_drop
  have e3 : joinErr (l.take (n + 1)) (l.drop n) = 0 := by
    have z1 := (h.take (n := n + 1) (by omega) (by omega)).err
    have z2 := (h.drop (n := n) (by omega)).err
    have z : twoErrL (l.take (n + 1)) (l.drop n) = 0 := by unfold twoErrL; rw [if_neg (fun h => h z1), z2]
    unfold joinErr
    rw [if_neg (fun h => h z), l1, l2, getD_take (by omega), getD_drop, if_pos (by simp), firstErr_z, if_pos (by omega), firstErr_z]; rfl
  refine ⟨e1, ?_, e2, ?_, e3, ?_⟩
  · unfold partL; rw [if_pos e1]; simp
  · unfold partL; rw [if_pos e2, List.take_of_length_le]
    · simp
    · rw [List.length_drop]; omega
  · unfold joinL; rw [if_pos e3, List.drop_drop, List.take_append_drop]
theorem dn0 : decide ((0 : Int) ≠ 0) = false := by decide
theorem de0 : decide ((0 : Int) = 0) = true := by decide
set_option maxRecDepth 100000 in
set_option maxHeartbeats 16000000 in
theorem law13 {H : AHeap} {avs : List Value} (h : RepAll Try.prog H [42, 42, 70] avs) : ACall Try.prog 13 avs H fun v _ => v = .bool true := by
  obtain ⟨a1, a2, a3, rfl, h1, h2, h3⟩ := h.three
  obtain ⟨a, u, rfl, ha, hma⟩ := repMapA h1
  obtain ⟨b, s, rfl, hb, hmb⟩ := repMapA h2
  obtain ⟨x, y, rfl, -, -⟩ := repTwo h3
  (refine a13 ?_; simp only [n13, List.replicate, yq, yr, yt, yu]; first | refine Go.Lq.q1 ?_ | refine Go.Lq.q2 ?_ | refine Go.Lq.q6 ?_ | refine Go.Lq.q7 ?_ | refine Go.Lq.qh rfl ?_ | skip)
  obtain ⟨G, hG⟩ : ∃ G, G = H ++ [AObj.cells true 0 [u]] ++ [AObj.cells true 0 [s]] ++ [AObj.cells true 0 [.int .i64 x, .int .i64 y]] := ⟨_, rfl⟩
  have g0 : G[H.length]? = some (.cells true 0 [u]) := by rw [hG]; simp
  have g1 : G[H.length + 1]? = some (.cells true 0 [s]) := by rw [hG]; simp
  have g2 : G[H.length + 2]? = some (.cells true 0 [.int .i64 x, .int .i64 y]) := by rw [hG]; simp
  have xG : Ext H G := by rw [hG]; exact (((Ext.refl H).app _).app _).app _
  (repeat (first | refine yv ?_ | (apply yd; simp (disch := first|exact zz|fail) only [go_sem, ha.box1, hb.box1]; with_reducible rfl)))
  (simp only [List.length_append, List.length_cons, List.length_nil, Nat.zero_add, Nat.add_assoc, Nat.reduceAdd])
  rw [← hG]
  clear hG
  have ka := ha.ext xG
  have kb := hb.ext xG
  (refine yg ?_)
  (refine aops_call_to (awake_c) ?_)
  (refine yg ?_)
  refine cond_f rfl ?_
  (repeat (first | refine yw ?_ | ((first | apply yd | apply ye); simp (disch := first|exact zz|fail) only [go_sem, n1_at g0]; with_reducible rfl)))
  (refine aops_call_to (few_c ka) ?_)
  by_cases hf : a.length ≤ 22
  rotate_left 1
  · (repeat (first | refine yw ?_ | ((first | apply yd | apply ye); simp (disch := first|exact zz|fail) only [go_sem, dec_f hf]; with_reducible rfl)))
    refine cond_t rfl ?_
    (refine yg ?_)
    exact fin_1 rfl
  (repeat (first | refine yw ?_ | ((first | apply yd | apply ye); simp (disch := first|exact zz|fail) only [go_sem, dec_t hf, n1_at g1]; with_reducible rfl)))
  (refine aops_call_to (few_c kb) ?_)
  by_cases hf2 : b.length ≤ 22
  rotate_left 1
  · (repeat (first | refine yw ?_ | ((first | apply yd | apply ye); simp (disch := first|exact zz|fail) only [go_sem, dec_f hf2]; with_reducible rfl)))
    refine cond_t rfl ?_
    (refine yg ?_)
    exact fin_1 rfl
  (repeat (first | refine yw ?_ | ((first | apply yd | apply ye); simp (disch := first|exact zz|fail) only [go_sem, dec_t hf2]; with_reducible rfl)))
  refine cond_f rfl ?_
  refine yx ?_
  (repeat (first | refine yv ?_ | (apply ye; simp (disch := first|exact zz|fail) only [go_sem, n1_at g0]; with_reducible rfl)))
  refine adraw_call (copyMap_c ka (by omega)) ?_
  have hC : Pairs (G ++ [.cells true 2 (flatP a)]) a (.slice (some ⟨G.length, 0, none⟩) a.length a.length) := Pairs.last a.length
  have x1 : Ext G (G ++ [AObj.cells true 2 (flatP a)]) := (Ext.refl G).app _
  obtain ⟨G1, hG1⟩ : ∃ G1, G ++ [AObj.cells true 2 (flatP a)] = G1 := ⟨_, rfl⟩
  rw [hG1] at hC x1 ⊢
  clear hG1
  have g0 := x1.cell g0
  have g1 := x1.cell g1
  have g2 := x1.cell g2
  have ka := ka.ext x1
  have kb := kb.ext x1
  (repeat (first | refine yv ?_ | (apply ye; simp (disch := first|exact zz|fail) only [go_sem, load_at g2]; with_reducible rfl)))
  obtain ⟨pe, hpe⟩ : ∃ pe, partErr a x y = pe := ⟨_, rfl⟩
  obtain ⟨pl, hpl⟩ : ∃ pl, partL a x y = pl := ⟨_, rfl⟩
  have hpc := part_c (x := x) (y := y) hC (by omega)
  rw [hpe, hpl] at hpc
  refine adraw_call (N := retN 2 pl.length (flatP pl)) hpc ?_
  have hpr : Pairs (G1 ++ retN 2 pl.length (flatP pl)) pl (retV G1 pl.length) := Pairs.ret
  have x2 : Ext G1 (G1 ++ retN 2 pl.length (flatP pl)) := ⟨_, rfl⟩
  obtain ⟨pv, hpv⟩ : ∃ pv, retV G1 pl.length = pv := ⟨_, rfl⟩
  obtain ⟨G2, hG2⟩ : ∃ G2, G1 ++ retN 2 pl.length (flatP pl) = G2 := ⟨_, rfl⟩
  rw [hpv, hG2] at hpr
  rw [hG2] at x2
  rw [hpv, hG2]
  clear hG2 hpv hpc
  have pva := hpr.atom
  (refine adraw_until (by simp (disch := first|exact zz|fail) only [go_sem]; with_reducible rfl) ?_)
  refine adraw_nil ?_
  refine fillF_agg (us := [pv]) rfl rfl (by simp [pva]) ?_
  refine fillF_nil ?_
  have c7 : (G2 ++ [AObj.cells true 0 [pv]])[G2.length]? = some (.cells true 0 [pv]) := at_new
  have x3 : Ext G2 (G2 ++ [AObj.cells true 0 [pv]]) := (Ext.refl G2).app _
  generalize (G2 ++ [AObj.cells true 0 [pv]] : AHeap) = G3 at c7 x3
  have hpr := hpr.ext x3
  have x13 := x2.trans x3
  have g0 := x13.cell g0
  have g1 := x13.cell g1
  have g2 := x13.cell g2
  have ka := ka.ext x13
  have kb := kb.ext x13
  clear hC x1 x2 x3
  refine yx ?_
  (repeat (first | refine yv ?_ | (apply ye; simp (disch := first|exact zz|fail) only [go_sem, n1_at g0]; with_reducible rfl)))
  refine adraw_call (copyMap_c ka (by omega)) ?_
  have hC : Pairs (G3 ++ [.cells true 2 (flatP a)]) a (.slice (some ⟨G3.length, 0, none⟩) a.length a.length) := Pairs.last a.length
  have x4 : Ext G3 (G3 ++ [AObj.cells true 2 (flatP a)]) := (Ext.refl G3).app _
  obtain ⟨G4, hG4⟩ : ∃ G4, G3 ++ [AObj.cells true 2 (flatP a)] = G4 := ⟨_, rfl⟩
  rw [hG4] at hC x4 ⊢
  clear hG4
  (repeat (first | refine yv ?_ | (apply ye; simp (disch := first|exact zz|fail) only [go_sem, n1_at (x4.cell g1)]; with_reducible rfl)))
  refine adraw_call (copyMap_c (kb.ext x4) (by omega)) ?_
  have hD : Pairs (G4 ++ [.cells true 2 (flatP b)]) b (.slice (some ⟨G4.length, 0, none⟩) b.length b.length) := Pairs.last b.length
  have x5 : Ext G4 (G4 ++ [AObj.cells true 2 (flatP b)]) := (Ext.refl G4).app _
  obtain ⟨G5, hG5⟩ : ∃ G5, G4 ++ [AObj.cells true 2 (flatP b)] = G5 := ⟨_, rfl⟩
  rw [hG5] at hD x5 ⊢
  clear hG5
  (repeat (first | refine yv ?_ | (apply ye; simp (disch := first|exact zz|fail) only [go_sem]; with_reducible rfl)))
  obtain ⟨je, hje⟩ : ∃ je, joinErr a b = je := ⟨_, rfl⟩
  obtain ⟨jl, hjl⟩ : ∃ jl, joinL a b = jl := ⟨_, rfl⟩
  have hjc := joined_c (hC.ext x5) hD (by omega) (by omega)
  rw [hje, hjl] at hjc
  refine adraw_call (N := retN 2 jl.length (flatP jl)) hjc ?_
  have hjr : Pairs (G5 ++ retN 2 jl.length (flatP jl)) jl (retV G5 jl.length) := Pairs.ret
  have x6 : Ext G5 (G5 ++ retN 2 jl.length (flatP jl)) := ⟨_, rfl⟩
  obtain ⟨jv, hjv⟩ : ∃ jv, retV G5 jl.length = jv := ⟨_, rfl⟩
  obtain ⟨G6, hG6⟩ : ∃ G6, G5 ++ retN 2 jl.length (flatP jl) = G6 := ⟨_, rfl⟩
  rw [hjv, hG6] at hjr
  rw [hG6] at x6
  rw [hjv, hG6]
  clear hG6 hjv hjc
  have jva := hjr.atom
  (refine adraw_until (by simp (disch := first|exact zz|fail) only [go_sem]; with_reducible rfl) ?_)
  refine adraw_nil ?_
  refine fillF_agg (us := [jv]) rfl rfl (by simp [jva]) ?_
  refine fillF_nil ?_
  have c9 : (G6 ++ [AObj.cells true 0 [jv]])[G6.length]? = some (.cells true 0 [jv]) := at_new
  have x7 : Ext G6 (G6 ++ [AObj.cells true 0 [jv]]) := (Ext.refl G6).app _
  generalize (G6 ++ [AObj.cells true 0 [jv]] : AHeap) = G7 at c9 x7
  have x47 := x4.trans (x5.trans (x6.trans x7))
  have hjr := hjr.ext x7
  have hpr := hpr.ext x47
  have c7 := x47.cell c7
  have g0 := x47.cell g0
  have g1 := x47.cell g1
  have g2 := x47.cell g2
  have ka := ka.ext x47
  have kb := kb.ext x47
  clear hC hD x4 x5 x6 x7
  (repeat (first | refine yw ?_ | ((first | apply yd | apply ye); simp (disch := first|exact zz|fail) only [go_sem, n1_at g0]; with_reducible rfl)))
  (refine aops_call_to (rMapErr_c ka (by omega)) ?_)
  (refine yg ?_)
  refine awp_mid [false, false, false, true, true, true, false, true, true, true, true, true, true, false, false, false, false, false, false, false, false, false, false, false, false, false, false, false, false, false, false, false, false, false, false, false, false, false, false, false, false, false, false, false, false, false, false, false, false, false, false, false, false, false, false, false, false, false, false, false, false, false, false, false, false, false, false, false, false, false, false, false, false, false, false, false, false, false, false, false, false, false, false, false, false, false, false, false, false, false, false, false, false, false, false, false, false, false, false, false, false, false, false, false, false, false, false, false, false, false, false, false, false, false, false, false, false, false, false, false, false, false, false, false, false, false, false, false, false, false, false, false, false, false, false, false, false, false, false, false, false, false, false, false, false, false, false, false, false, false, false, false, false, false, false, false, false, false, false, false, false, false, false, false, false, false, false, false, false, false, false, false, false, false, false, false, false, false, false, false, false, false, false, false, false, false, false, false, false, false, false, false, false, false, false] (fun e J => J = G7 ∧ e = [junk, junk, junk, .pointer (some ⟨H.length, 0, none⟩), .pointer (some ⟨H.length + 1, 0, none⟩), .pointer (some ⟨H.length + 2, 0, none⟩), junk, .pointer (some ⟨G2.length, 0, none⟩), .int .i64 pe, .pointer (some ⟨G6.length, 0, none⟩), .int .i64 je, .int .i64 (mapErrL a), .int .i64 (twoErrL a b), junk, junk, junk, junk, junk, junk, junk, junk, junk, junk, junk, junk, junk, junk, junk, junk, junk, junk, junk, junk, junk, junk, junk, junk, junk, junk, junk, junk, junk, junk, junk, junk, junk, junk, junk, junk, junk, junk, junk, junk, junk, junk, junk, junk, junk, junk, junk, junk, junk, junk, junk, junk, junk, junk, junk, junk, junk, junk, junk, junk, junk, junk, junk, junk, junk, junk, junk, junk, junk, junk, junk, junk, junk, junk, junk, junk, junk, junk, junk, junk, junk, junk, junk, junk, junk, junk, junk, junk, junk, junk, junk, junk, junk, junk, junk, junk, junk, junk, junk, junk, junk, junk, junk, junk, junk, junk, junk, junk, junk, junk, junk, junk, junk, junk, junk, junk, junk, junk, junk, junk, junk, junk, junk, junk, junk, junk, junk, junk, junk, junk, junk, junk, junk, junk, junk, junk, junk, junk, junk, junk, junk, junk, junk, junk, junk, junk, junk, junk, junk, junk, junk, junk, junk, junk, junk, junk, junk, junk, junk, junk, junk, junk, junk, junk, junk, junk, junk, junk, junk, junk, junk, junk, junk, junk, junk, junk, junk, junk, junk, junk, junk, junk]) ?_ ?_
  · refine cond_p (p := mapErrL a = 0) rfl (fun h0 => ?_) (fun h0 => ?_)
    · have et : twoErrL a b = mapErrL b := if_neg (fun h => h h0)
      rw [et]
      (repeat (first | refine yw ?_ | ((first | apply yd | apply ye); simp (disch := first|exact zz|fail) only [go_sem, n1_at g1]; with_reducible rfl)))
      (refine aops_call_to (rMapErr_c kb (by omega)) ?_)
      (refine yg ?_)
      exact ⟨rfl, rfl, by simp [forget]⟩
    · have et : twoErrL a b = mapErrL a := if_pos h0
      rw [et]
      (refine yg ?_)
      exact ⟨rfl, rfl, by simp [forget]⟩
  rintro e J ⟨rfl, rfl⟩
  have hst : storeR 1 (.pointer (some ⟨J.length, 0, none⟩)) (.agg ⟨[.slice none 0 0]⟩) (J ++ [.cells true 0 [.slice none 0 0]]) = some (undef, J ++ [.cells true 0 [.slice none 0 0]]) := store_newA rfl
  have c13 : (J ++ [AObj.cells true 0 [.slice none 0 0]])[J.length]? = some (.cells true 0 [.slice none 0 0]) := at_new
  have x8 : Ext J (J ++ [AObj.cells true 0 [.slice none 0 0]]) := (Ext.refl J).app _
  (repeat (first | refine yw ?_ | ((first | apply yd | apply ye); simp (disch := first|exact zz|fail) only [go_sem, fill_none, hst]; with_reducible rfl)))
  generalize (J ++ [AObj.cells true 0 [.slice none 0 0]] : AHeap) = G8 at c13 x8
  have l8 := (List.getElem?_eq_some_iff.1 c13).1
  have g0' := x8.cell g0
  have g1' := x8.cell g1
  have ka8 := ka.ext x8
  have kb8 := kb.ext x8
  refine awp_mid [false, false, false, true, true, true, false, true, true, true, true, true, true, true, false, false, false, false, false, false, false, false, false, false, false, false, false, false, false, false, false, false, false, false, false, false, false, false, false, false, false, false, false, false, false, false, false, false, false, false, false, false, false, false, false, false, false, false, false, false, false, false, false, false, false, false, false, false, false, false, false, false, false, false, false, false, false, false, false, false, false, false, false, false, false, false, false, false, false, false, false, false, false, false, false, false, false, false, false, false, false, false, false, false, false, false, false, false, false, false, false, false, false, false, false, false, false, false, false, false, false, false, false, false, false, false, false, false, false, false, false, false, false, false, false, false, false, false, false, false, false, false, false, false, false, false, false, false, false, false, false, false, false, false, false, false, false, false, false, false, false, false, false, false, false, false, false, false, false, false, false, false, false, false, false, false, false, false, false, false, false, false, false, false, false, false, false, false, false, false, false, false, false, false, false] (fun e K => ∃ wv, e = [junk, junk, junk, .pointer (some ⟨H.length, 0, none⟩), .pointer (some ⟨H.length + 1, 0, none⟩), .pointer (some ⟨H.length + 2, 0, none⟩), junk, .pointer (some ⟨G2.length, 0, none⟩), .int .i64 pe, .pointer (some ⟨G6.length, 0, none⟩), .int .i64 je, .int .i64 (mapErrL a), .int .i64 je, .pointer (some ⟨J.length, 0, none⟩), junk, junk, junk, junk, junk, junk, junk, junk, junk, junk, junk, junk, junk, junk, junk, junk, junk, junk, junk, junk, junk, junk, junk, junk, junk, junk, junk, junk, junk, junk, junk, junk, junk, junk, junk, junk, junk, junk, junk, junk, junk, junk, junk, junk, junk, junk, junk, junk, junk, junk, junk, junk, junk, junk, junk, junk, junk, junk, junk, junk, junk, junk, junk, junk, junk, junk, junk, junk, junk, junk, junk, junk, junk, junk, junk, junk, junk, junk, junk, junk, junk, junk, junk, junk, junk, junk, junk, junk, junk, junk, junk, junk, junk, junk, junk, junk, junk, junk, junk, junk, junk, junk, junk, junk, junk, junk, junk, junk, junk, junk, junk, junk, junk, junk, junk, junk, junk, junk, junk, junk, junk, junk, junk, junk, junk, junk, junk, junk, junk, junk, junk, junk, junk, junk, junk, junk, junk, junk, junk, junk, junk, junk, junk, junk, junk, junk, junk, junk, junk, junk, junk, junk, junk, junk, junk, junk, junk, junk, junk, junk, junk, junk, junk, junk, junk, junk, junk, junk, junk, junk, junk, junk, junk, junk, junk, junk, junk, junk, junk, junk, junk] ∧
    Ext J K ∧ K[J.length]? = some (.cells true 0 [wv]) ∧ Pairs K jl wv) ?_ ?_
  · refine cond_p (p := twoErrL a b = 0) rfl (fun hz => ?_) (fun hz => ?_)
    rotate_left 1
    · have ej : joinErr a b = twoErrL a b := if_pos hz
      have eo : joinL a b = [] := if_neg (by rw [ej]; exact hz)
      rw [ej] at hje
      rw [eo] at hjl
      subst hjl
      rw [hje]
      (refine yg ?_)
      exact ⟨rfl, _, by simp [forget], x8, c13, ⟨rfl, .inl ⟨rfl, rfl⟩⟩⟩
    obtain ⟨z1, z2⟩ := two_zero hz
    have oka := mapErr_ok z1
    have okb := mapErr_ok z2
    have a2 := oka.lo
    have b2 := okb.lo
    have a20 := oka.hi
    have b20 := okb.hi
    have ej : joinErr a b = firstErr [(if a.getD (a.length - 1) (0, 0) = b.getD 0 (0, 0) then 0 else 14), (if (a.length : Int) + (b.length : Int) - 1 ≤ 20 then 0 else 8)] := if_neg (fun h => h hz)
    rw [ej] at hje
    (repeat (first | refine yw ?_ | ((first | apply yd | apply ye); simp (disch := first|exact zz|fail) only [go_sem, n1_at g0']; with_reducible rfl)))
    (refine adraw_call (N := []) (firstD (rLast_c ka8 (by omega) (by omega))) ?_; rw [List.append_nil])
    (repeat (first | refine yw ?_ | ((first | apply yd | apply ye); simp (disch := first|exact zz|fail) only [go_sem, n1_at g1']; with_reducible rfl)))
    (refine adraw_call (N := []) (firstD (rFirst_c kb8 (by omega))) ?_; rw [List.append_nil])
    by_cases hm : a.getD (a.length - 1) (0, 0) = b.getD 0 (0, 0)
    rotate_left 1
    · rw [if_neg hm, firstErr_e (by decide)] at hje
      have eo : joinL a b = [] := if_neg (by rw [ej, if_neg hm, firstErr_e (by decide)]; decide)
      rw [eo] at hjl
      subst hjl
      (repeat (first | refine yw ?_ | ((first | apply yd | apply ye); simp (disch := first|exact zz|fail) only [go_sem, eq_pair, dec_pair, dec_f hm]; with_reducible rfl)))
      refine cond_t rfl ?_
      (refine yg ?_)
      rw [hje]
      exact ⟨rfl, _, by simp [forget], x8, c13, ⟨rfl, .inl ⟨rfl, rfl⟩⟩⟩
    rw [if_pos hm, firstErr_z] at hje
    (repeat (first | refine yw ?_ | ((first | apply yd | apply ye); simp (disch := first|exact zz|fail) only [go_sem, eq_pair, dec_pair, dec_t hm]; with_reducible rfl)))
    refine cond_f rfl ?_
    by_cases h20 : (a.length : Int) + (b.length : Int) - 1 > 20
    · rw [if_neg (by omega), firstErr_e (by decide)] at hje
      have eo : joinL a b = [] := if_neg (by rw [ej, if_pos hm, firstErr_z, if_neg (by omega), firstErr_e (by decide)]; decide)
      rw [eo] at hjl
      subst hjl
      (repeat (first | refine yw ?_ | ((first | apply yd | apply ye); simp (disch := first|exact zz|fail) only [go_sem, ka8.len, ka8.idx, ka8.load, kb8.len, kb8.idx, kb8.load, load_at g0', load_at g1', dec_t h20]; with_reducible rfl)))
      refine cond_t rfl ?_
      (refine yg ?_)
      rw [hje]
      exact ⟨rfl, _, by simp [forget], x8, c13, ⟨rfl, .inl ⟨rfl, rfl⟩⟩⟩
    rw [if_pos (by omega), firstErr_z] at hje
    have hje : (0 : Int) = je := hje
    have eo : joinL a b = a ++ b.drop 1 := if_pos (by rw [ej, if_pos hm, firstErr_z, if_pos (by omega), firstErr_z]; rfl)
    rw [eo] at hjl
    have hap1 : appendA 2 16 G8 (.slice none 0 0) u = some (.slice (some ⟨G8.length, 0, none⟩) a.length a.length, G8 ++ [.cells true 2 (flatP a)]) := by
      rcases ka8.2 with ⟨h, h'⟩ | ⟨jd, off, c, hv, hc⟩
      · omega
      · rw [hv]
        obtain ⟨k, hk⟩ : ∃ k, a.length = k + 1 := ⟨a.length - 1, by omega⟩
        have hc' := hc (by omega)
        have hat := isAtom_flatP a
        rw [hk] at hc' ⊢
        have hrm : roomOk 16 (k + 1) = true := roomOk_of (by omega) (by omega)
        simp only [appendA, hc', hat, hrm, and_self, if_true]
    have hown : Own G8 (G8 ++ [AObj.cells true 2 (flatP a)]) 2 a.length (flatP a) (.slice (some ⟨G8.length, 0, none⟩) a.length a.length) := ⟨flatP_len a, .inr ⟨G8.length, rfl, Nat.le_refl _, by omega, at_new⟩⟩
    have hfr := fun J : AHeap => Sl.from kb8 (H' := J) (lo := (1 : Int)) (k := .i64) (by omega) (by omega) (by omega)
    rw [show (1 : Int).toNat = 1 from rfl] at hfr
    have kt := kb8.tail (lo := 1) (by omega)
    have hdl : (b.drop 1).length = b.length - 1 := List.length_drop
    have hap2 := Own.append (bytes := 16) hown (w := fromV 2 s 1) (m := (b.drop 1).length) (cs := flatP (b.drop 1)) (kt.ext ((Ext.refl G8).app _)) (by omega) (isAtom_flatP _) (roomOk_of (by omega) (by omega))
    have hpd := Own.appended hown (m := (b.drop 1).length) (cs := flatP (b.drop 1)) (by rw [flatP_len]) (by omega) (by simp)
    have xap := Own.ext (us := flatP a ++ flatP (b.drop 1)) hown ((Ext.refl G8).app [.cells true 2 (flatP a)])
    have cap : (appH (G8 ++ [AObj.cells true 2 (flatP a)]) (.slice (some ⟨G8.length, 0, none⟩) a.length a.length) 2 (flatP a ++ flatP (b.drop 1)))[J.length]? = some (.cells true 0 [.slice none 0 0]) := by
      rw [appH_at (by simp; omega) (.inr (by show G8.length ≠ J.length; omega))]
      exact at_app c13
    have hlen8 : (G8 ++ [AObj.cells true 2 (flatP a)]).length = G8.length + 1 := by simp
    rw [hlen8] at hap2 hpd
    generalize appH (G8 ++ [AObj.cells true 2 (flatP a)]) (.slice (some ⟨G8.length, 0, none⟩) a.length a.length) 2 (flatP a ++ flatP (b.drop 1)) = K at hap2 hpd xap cap
    (repeat (first | refine yw ?_ | ((first | apply yd | apply ye); simp (disch := first|exact zz|fail) only [go_sem, ka8.len, ka8.idx, ka8.load, kb8.len, kb8.idx, kb8.load, dec_f h20, load_at g0', load_at g1']; with_reducible rfl)))
    refine cond_f rfl ?_
    have g1'' := at_app (N := [AObj.cells true 2 (flatP a)]) g1'
    (repeat (first | refine yw ?_ | ((first | apply yd | apply ye); simp (disch := first|exact zz|fail) only [go_sem, load_at c13, load_at g0', load_at g1', load_at g1'', hap1, hfr, hap2, store_b1 (y := .slice (some ⟨G8.length + 1, 0, none⟩) (a.length + (b.drop 1).length) (a.length + (b.drop 1).length)) cap rfl rfl]; with_reducible rfl)))
    have hjp : OwnP G8 K (a ++ b.drop 1) (.slice (some ⟨G8.length + 1, 0, none⟩) (a.length + (b.drop 1).length) (a.length + (b.drop 1).length)) := by
      unfold OwnP
      rw [List.length_append, flatP_append]
      exact hpd
    subst hje
    refine ⟨rfl, .slice (some ⟨G8.length + 1, 0, none⟩) (a.length + (b.drop 1).length) (a.length + (b.drop 1).length), by simp [forget, hz], (x8.trans xap).set (Nat.le_refl _) _, get_set_self cap, ?_⟩
    rw [← hjl]
    exact (OwnP.set_ne hjp (.inr (by show G8.length + 1 ≠ J.length; omega)) _).pairs
  rintro e K ⟨wv, rfl, xK, c13, hwv⟩
  have hjr := hjr.ext xK
  have hpr := hpr.ext xK
  have c7 := xK.cell c7
  have c9 := xK.cell c9
  have g0 := xK.cell g0
  have g2 := xK.cell g2
  have ka := ka.ext xK
  clear x8 g0' g1' ka8 kb8
  have hjl20 : jl.length ≤ 1000 := by rw [← hjl]; unfold joinL; split <;> simp; omega
  (repeat (first | refine yw ?_ | ((first | apply yd | apply ye); simp (disch := first|exact zz|fail) only [go_sem, decide_ne_self, n1_at c9, n1_at c13]; with_reducible rfl)))
  (refine aops_call_to (sameMap_c hjr hwv (by omega)) ?_)
  (repeat (first | refine yw ?_ | ((first | apply yd | apply ye); simp (disch := first|exact zz|fail) only [go_sem, decide_eq_self]; with_reducible rfl)))
  refine cond_f rfl ?_
  have hbx : ∀ t : Int, ACall Try.prog 23 [.int .i64 t, .int .i64 0, .int .i64 ((a.length : Int) - 1)] K fun v H' => v = .bool (decide (0 ≤ t ∧ t ≤ (a.length : Int) - 1)) ∧ H' = K := fun t => bwithin_c _ _ _
  have hpd : partErr a x y = firstErr [mapErrL a, (if (0 ≤ x ∧ x ≤ (a.length : Int) - 1) ∧ (0 ≤ y ∧ y ≤ (a.length : Int) - 1) then 0 else 6), (if x < y then 0 else 10)] := rfl
  rw [hpe] at hpd
  have hkl := ka.len (H' := K)
  obtain ⟨e1, he1⟩ : ∃ e1, e1 = if mapErrL a = 0 ∧ ¬ ((0 ≤ x ∧ x ≤ (a.length : Int) - 1) ∧ (0 ≤ y ∧ y ≤ (a.length : Int) - 1)) then 6 else mapErrL a := ⟨_, rfl⟩
  iterate 3 refine yv ?_
  refine awp_mid [false, false, false, true, false, true, false, true, true, false, false, true, false, false, false, false, false, false, false, false, false, false, false, false, false, false, false, false, false, false, false, false, false, false, false, false, false, false, false, false, false, false, false, false, false, false, false, false, false, false, false, false, false, false, false, false, false, false, false, false, false, false, false, false, false, false, false, false, false, false, false, false, false, false, false, false, false, false, false, false, false, false, false, false, false, false, false, false, false, false, false, false, false, false, false, false, false, false, false, false, false, false, false, false, false, false, false, false, false, false, false, false, false, false, false, false, false, false, false, false, false, false, false, false, false, false, false, false, false, false, false, false, false, false, false, false, false, false, false, false, false, false, false, false, false, false, false, false, false, false, false, false, false, false, false, false, false, false, false, false, false, false, false, false, false, false, false, false, false, false, false, false, false, false, false, false, false, false, false, false, false, false, false, false, false, false, false, false, false, false, false, false, false, false, false] (fun e J2 => J2 = K ∧ e = [junk, junk, junk, .pointer (some ⟨H.length, 0, none⟩), junk, .pointer (some ⟨H.length + 2, 0, none⟩), junk, .pointer (some ⟨G2.length, 0, none⟩), .int .i64 pe, junk, junk, .int .i64 e1, junk, junk, junk, junk, junk, junk, junk, junk, junk, junk, junk, junk, junk, junk, junk, junk, junk, junk, junk, junk, junk, junk, junk, junk, junk, junk, junk, junk, junk, junk, junk, junk, junk, junk, junk, junk, junk, junk, junk, junk, junk, junk, junk, junk, junk, junk, junk, junk, junk, junk, junk, junk, junk, junk, junk, junk, junk, junk, junk, junk, junk, junk, junk, junk, junk, junk, junk, junk, junk, junk, junk, junk, junk, junk, junk, junk, junk, junk, junk, junk, junk, junk, junk, junk, junk, junk, junk, junk, junk, junk, junk, junk, junk, junk, junk, junk, junk, junk, junk, junk, junk, junk, junk, junk, junk, junk, junk, junk, junk, junk, junk, junk, junk, junk, junk, junk, junk, junk, junk, junk, junk, junk, junk, junk, junk, junk, junk, junk, junk, junk, junk, junk, junk, junk, junk, junk, junk, junk, junk, junk, junk, junk, junk, junk, junk, junk, junk, junk, junk, junk, junk, junk, junk, junk, junk, junk, junk, junk, junk, junk, junk, junk, junk, junk, junk, junk, junk, junk, junk, junk, junk, junk, junk, junk, junk, junk, junk, junk, junk, junk, junk, junk, junk]) ?_ ?_
  · by_cases hc : mapErrL a = 0
    rotate_left 1
    · rw [if_neg (fun h => hc h.1)] at he1
      (repeat (first | refine yw ?_ | ((first | apply yd | apply ye); simp (disch := first|exact zz|fail) only [go_sem, dec_f hc]; with_reducible rfl)))
      refine cond_f rfl ?_
      (refine yg ?_)
      exact ⟨rfl, rfl, by simp [forget, he1]⟩
    (repeat (first | refine yw ?_ | ((first | apply yd | apply ye); simp (disch := first|exact zz|fail) only [go_sem, dec_t hc, load_at g2, load_at g0, hkl]; with_reducible rfl)))
    (refine aops_call_to (hbx x) ?_)
    by_cases hx : 0 ≤ x ∧ x ≤ (a.length : Int) - 1
    rotate_left 1
    · rw [if_pos ⟨hc, fun h => hx h.1⟩] at he1
      (repeat (first | refine yw ?_ | ((first | apply yd | apply ye); simp (disch := first|exact zz|fail) only [go_sem, dec_f hx]; with_reducible rfl)))
      refine cond_t rfl ?_
      (refine yg ?_)
      exact ⟨rfl, rfl, by simp [forget, he1]⟩
    (repeat (first | refine yw ?_ | ((first | apply yd | apply ye); simp (disch := first|exact zz|fail) only [go_sem, dec_t hx, load_at g2, load_at g0, hkl]; with_reducible rfl)))
    (refine aops_call_to (hbx y) ?_)
    by_cases hy : 0 ≤ y ∧ y ≤ (a.length : Int) - 1
    rotate_left 1
    · rw [if_pos ⟨hc, fun h => hy h.2⟩] at he1
      (repeat (first | refine yw ?_ | ((first | apply yd | apply ye); simp (disch := first|exact zz|fail) only [go_sem, dec_f hy]; with_reducible rfl)))
      refine cond_t rfl ?_
      (refine yg ?_)
      exact ⟨rfl, rfl, by simp [forget, he1]⟩
    · rw [if_neg (fun h => h.2 ⟨hx, hy⟩)] at he1
      (repeat (first | refine yw ?_ | ((first | apply yd | apply ye); simp (disch := first|exact zz|fail) only [go_sem, dec_t hy]; with_reducible rfl)))
      refine cond_f rfl ?_
      (refine yg ?_)
      exact ⟨rfl, rfl, by simp [forget, he1]⟩
  rintro e J2 ⟨rfl, rfl⟩
  refine yv ?_
  refine awp_mid [false, false, false, true, false, true, false, true, true, false, false, true, false, false, false, false, false, false, false, false, false, false, false, false, false, false, false, false, false, false, false, false, false, false, false, false, false, false, false, false, false, false, false, false, false, false, false, false, false, false, false, false, false, false, false, false, false, false, false, false, false, false, false, false, false, false, false, false, false, false, false, false, false, false, false, false, false, false, false, false, false, false, false, false, false, false, false, false, false, false, false, false, false, false, false, false, false, false, false, false, false, false, false, false, false, false, false, false, false, false, false, false, false, false, false, false, false, false, false, false, false, false, false, false, false, false, false, false, false, false, false, false, false, false, false, false, false, false, false, false, false, false, false, false, false, false, false, false, false, false, false, false, false, false, false, false, false, false, false, false, false, false, false, false, false, false, false, false, false, false, false, false, false, false, false, false, false, false, false, false, false, false, false, false, false, false, false, false, false, false, false, false, false, false, false] (fun e J3 => J3 = J2 ∧ e = [junk, junk, junk, .pointer (some ⟨H.length, 0, none⟩), junk, .pointer (some ⟨H.length + 2, 0, none⟩), junk, .pointer (some ⟨G2.length, 0, none⟩), .int .i64 pe, junk, junk, .int .i64 pe, junk, junk, junk, junk, junk, junk, junk, junk, junk, junk, junk, junk, junk, junk, junk, junk, junk, junk, junk, junk, junk, junk, junk, junk, junk, junk, junk, junk, junk, junk, junk, junk, junk, junk, junk, junk, junk, junk, junk, junk, junk, junk, junk, junk, junk, junk, junk, junk, junk, junk, junk, junk, junk, junk, junk, junk, junk, junk, junk, junk, junk, junk, junk, junk, junk, junk, junk, junk, junk, junk, junk, junk, junk, junk, junk, junk, junk, junk, junk, junk, junk, junk, junk, junk, junk, junk, junk, junk, junk, junk, junk, junk, junk, junk, junk, junk, junk, junk, junk, junk, junk, junk, junk, junk, junk, junk, junk, junk, junk, junk, junk, junk, junk, junk, junk, junk, junk, junk, junk, junk, junk, junk, junk, junk, junk, junk, junk, junk, junk, junk, junk, junk, junk, junk, junk, junk, junk, junk, junk, junk, junk, junk, junk, junk, junk, junk, junk, junk, junk, junk, junk, junk, junk, junk, junk, junk, junk, junk, junk, junk, junk, junk, junk, junk, junk, junk, junk, junk, junk, junk, junk, junk, junk, junk, junk, junk, junk, junk, junk, junk, junk, junk, junk]) ?_ ?_
  · by_cases hc : e1 = 0
    rotate_left 1
    · have hpe1 : pe = e1 := by
        by_cases h0 : mapErrL a = 0
        · by_cases h1 : (0 ≤ x ∧ x ≤ (a.length : Int) - 1) ∧ (0 ≤ y ∧ y ≤ (a.length : Int) - 1)
          · rw [if_neg (fun h => h.2 h1), h0] at he1; exact absurd he1 hc
          · rw [if_pos ⟨h0, h1⟩] at he1
            rw [h0, firstErr_z, if_neg h1, firstErr_e (by decide)] at hpd
            rw [he1, hpd]
        · rw [if_neg (fun h => h0 h.1)] at he1
          rw [firstErr_e h0] at hpd
          rw [he1, hpd]
      (repeat (first | refine yw ?_ | ((first | apply yd | apply ye); simp (disch := first|exact zz|fail) only [go_sem, dec_f hc]; with_reducible rfl)))
      refine cond_f rfl ?_
      (refine yg ?_)
      exact ⟨rfl, rfl, by simp [forget, hpe1]⟩
    have hall : mapErrL a = 0 ∧ ((0 ≤ x ∧ x ≤ (a.length : Int) - 1) ∧ (0 ≤ y ∧ y ≤ (a.length : Int) - 1)) := by
      by_cases h1 : mapErrL a = 0 ∧ ¬ ((0 ≤ x ∧ x ≤ (a.length : Int) - 1) ∧ (0 ≤ y ∧ y ≤ (a.length : Int) - 1))
      · rw [if_pos h1] at he1; omega
      · rw [if_neg h1] at he1
        exact ⟨by omega, Decidable.not_not.1 fun hn => h1 ⟨by omega, hn⟩⟩
    rw [hall.1, firstErr_z, if_pos hall.2, firstErr_z] at hpd
    by_cases hxy : y ≤ x
    · rw [if_neg (by omega), firstErr_e (by decide)] at hpd
      (repeat (first | refine yw ?_ | ((first | apply yd | apply ye); simp (disch := first|exact zz|fail) only [go_sem, dec_t hc, load_at g2, dec_t hxy]; with_reducible rfl)))
      refine cond_t rfl ?_
      (refine yg ?_)
      exact ⟨rfl, rfl, by simp [forget, hpd]⟩
    · rw [if_pos (by omega), firstErr_z] at hpd
      have hpd : pe = 0 := hpd
      (repeat (first | refine yw ?_ | ((first | apply yd | apply ye); simp (disch := first|exact zz|fail) only [go_sem, dec_t hc, load_at g2, dec_f hxy]; with_reducible rfl)))
      refine cond_f rfl ?_
      (refine yg ?_)
      exact ⟨rfl, rfl, by simp [forget, hpd, hc]⟩
  rintro e J3 ⟨rfl, rfl⟩
  (refine yg ?_)
  refine cond_p (p := pe ≠ 0) rfl (fun hne => ?_) (fun heq => ?_)
  · have eo : pl = [] := by rw [← hpl]; exact if_neg (by rw [hpe]; exact hne)
    subst eo
    (repeat (first | refine yw ?_ | ((first | apply yd | apply ye); simp (disch := first|exact zz|fail) only [go_sem, hpr.len, hpr.idx, hpr.load, decide_eq_self, load_at c7, List.length_nil]; with_reducible rfl)))
    exact fin_1 rfl
  have hz := Decidable.not_not.1 heq
  obtain ⟨hok, hx, hy, hxy⟩ := part_ok (show partErr a x y = 0 by rw [hpe, hz])
  have h20 := hok.hi
  have h02 := hok.lo
  have eo : pl = (a.drop x.toNat).take ((y + 1).toNat - x.toNat) := by
    rw [← hpl]; unfold partL; rw [if_pos (by rw [hpe, hz])]; congr 1; omega
  rw [hz]
  have hmid := fun J : AHeap => Sl.between ka (H' := J) (lo := x) (hi := y + 1) (k := .i64) (k' := .i64) (by omega) (by omega) (by omega) (by omega)
  have hinn := ka.inner (lo := x.toNat) (hi := (y + 1).toNat) (by omega) (by omega)
  rw [← eo] at hinn
  have ina := hinn.atom
  have hfm : fillA [.slice none 0 0] [(0, 1, midV 2 u x.toNat (y + 1).toNat)] = some [midV 2 u x.toNat (y + 1).toNat] := by
    rcases hinn.2 with ⟨h, _⟩ | ⟨_, _, _, h, _⟩ <;> rw [h] <;> rfl
  have hpl20 : pl.length ≤ 1000000 := by rw [eo, List.length_take, List.length_drop]; omega
  (repeat (first | refine yw ?_ | ((first | apply yd | apply ye); simp (disch := first|exact zz|fail) only [go_sem, dn0, n1_at c7, load_at g0, load_at g2, hmid, hfm]; with_reducible rfl)))
  (refine adraw_call (N := []) (firstD (sameMap_c hpr hinn hpl20)) ?_; rw [List.append_nil])
  (repeat (first | refine yw ?_ | ((first | apply yd | apply ye); simp (disch := first|exact zz|fail) only [go_sem, decide_eq_self]; with_reducible rfl)))
  refine cond_f rfl ?_
  (repeat (first | refine yw ?_ | ((first | apply yd | apply ye); simp (disch := first|exact zz|fail) only [go_sem, load_at g2]; with_reducible rfl)))
  refine cond_p (p := x = 0) rfl (fun h0 => ?_) (fun h0 => ?_)
  · (refine yg ?_)
    exact fin_1 rfl
  obtain ⟨n, hn⟩ : ∃ n : Nat, x = (n : Int) := ⟨x.toNat, by omega⟩
  subst hn
  obtain ⟨q1, q2, q3, q4, q5', q6'⟩ := join_parts hok (n := n) (by omega) (by omega)
  have gg0 := g0
  (repeat (first | refine yw ?_ | ((first | apply yd | apply ye); simp (disch := first|exact zz|fail) only [go_sem, n1_at g0]; with_reducible rfl)))
  (refine aops_call_to (copyMap_c ka (by omega)) ?_)
  have hC : Pairs (J3 ++ [.cells true 2 (flatP a)]) a (.slice (some ⟨J3.length, 0, none⟩) a.length a.length) := Pairs.last a.length
  have x4 : Ext J3 (J3 ++ [AObj.cells true 2 (flatP a)]) := (Ext.refl J3).app _
  (refine yg ?_)
  generalize (J3 ++ [AObj.cells true 2 (flatP a)] : AHeap) = J4 at hC x4
  refine aops_call ((part_c (x := 0) (y := (n : Int)) hC (by omega)).mono fun w J5 ⟨hw, hJ5⟩ => ?_)
  rw [q1, q2] at hw
  rw [q2] at hJ5
  subst hw
  have hbr : Pairs J5 (a.take (n + 1)) (retV J4 (a.take (n + 1)).length) := by rw [hJ5]; exact Pairs.ret
  have x5 : Ext J4 J5 := ⟨_, hJ5⟩
  clear hJ5
  obtain ⟨bv, hbv⟩ : ∃ bv, retV J4 (a.take (n + 1)).length = bv := ⟨_, rfl⟩
  rw [hbv] at hbr ⊢
  clear hbv
  have bva := hbr.atom
  have hst15 : storeR 1 (.pointer (some ⟨J5.length, 0, none⟩)) (.agg ⟨[bv]⟩) (J5 ++ [.cells true 0 [.slice none 0 0]]) = some (undef, J5 ++ [.cells true 0 [bv]]) := store_newA bva
  have c15 : (J5 ++ [AObj.cells true 0 [bv]])[J5.length]? = some (.cells true 0 [bv]) := at_new
  have x6 : Ext J5 (J5 ++ [AObj.cells true 0 [bv]]) := (Ext.refl J5).app _
  (repeat (first | refine yw ?_ | ((first | apply yd | apply ye); simp (disch := first|exact zz|fail) only [go_sem, hst15]; with_reducible rfl)))
  clear hst15
  generalize (J5 ++ [AObj.cells true 0 [bv]] : AHeap) = J6 at c15 x6
  have hbr := hbr.ext x6
  have x36 := x4.trans (x5.trans x6)
  have g6 := x36.cell g0
  have ka6 := ka.ext x36
  clear hC x4 x5 x6
  refine yx ?_
  (repeat (first | refine yv ?_ | (apply ye; simp (disch := first|exact zz|fail) only [go_sem, n1_at g6]; with_reducible rfl)))
  refine adraw_call (copyMap_c ka6 (by omega)) ?_
  have hC : Pairs (J6 ++ [.cells true 2 (flatP a)]) a (.slice (some ⟨J6.length, 0, none⟩) a.length a.length) := Pairs.last a.length
  have x7 : Ext J6 (J6 ++ [AObj.cells true 2 (flatP a)]) := (Ext.refl J6).app _
  obtain ⟨J7, hJ7⟩ : ∃ J7, J6 ++ [AObj.cells true 2 (flatP a)] = J7 := ⟨_, rfl⟩
  rw [hJ7] at hC x7 ⊢
  clear hJ7
  have g7 := x7.cell g6
  have ka7 := ka6.ext x7
  have hkl7 := ka7.len (H' := J7)
  (repeat (first | refine yv ?_ | (apply ye; simp (disch := first|exact zz|fail) only [go_sem, load_at g7, hkl7]; with_reducible rfl)))
  have hpc := part_c (x := (n : Int)) (y := (a.length : Int) - 1) hC (by omega)
  rw [q3, q4] at hpc
  refine adraw_call (N := retN 2 (a.drop n).length (flatP (a.drop n))) hpc ?_
  have har : Pairs (J7 ++ retN 2 (a.drop n).length (flatP (a.drop n))) (a.drop n) (retV J7 (a.drop n).length) := Pairs.ret
  have x8 : Ext J7 (J7 ++ retN 2 (a.drop n).length (flatP (a.drop n))) := ⟨_, rfl⟩
  obtain ⟨av, hav⟩ : ∃ av, retV J7 (a.drop n).length = av := ⟨_, rfl⟩
  obtain ⟨J8, hJ8⟩ : ∃ J8, J7 ++ retN 2 (a.drop n).length (flatP (a.drop n)) = J8 := ⟨_, rfl⟩
  rw [hav, hJ8] at har
  rw [hJ8] at x8
  rw [hav, hJ8]
  clear hJ8 hav hpc
  have ava := har.atom
  (refine adraw_until (by simp (disch := first|exact zz|fail) only [go_sem]; with_reducible rfl) ?_)
  refine adraw_nil ?_
  refine fillF_agg (us := [av]) rfl rfl (by simp [ava]) ?_
  refine fillF_nil ?_
  have c17 : (J8 ++ [AObj.cells true 0 [av]])[J8.length]? = some (.cells true 0 [av]) := at_new
  have x9 : Ext J8 (J8 ++ [AObj.cells true 0 [av]]) := (Ext.refl J8).app _
  generalize (J8 ++ [AObj.cells true 0 [av]] : AHeap) = J9 at c17 x9
  have har := har.ext x9
  have x69 := x7.trans (x8.trans x9)
  have c15 := x69.cell c15
  have hbr := hbr.ext x69
  have g9 := x69.cell g6
  have ka9 := ka6.ext x69
  clear hC x7 x8 x9 g7 ka7 hkl7
  have lt1 : (a.take (n + 1)).length ≤ 1000000 := by rw [List.length_take]; omega
  have ld1 : (a.drop n).length ≤ 1000000 := by rw [List.length_drop]; omega
  refine yx ?_
  (repeat (first | refine yv ?_ | (apply ye; simp (disch := first|exact zz|fail) only [go_sem, n1_at c15]; with_reducible rfl)))
  refine adraw_call (copyMap_c hbr lt1) ?_
  have hC : Pairs (J9 ++ [.cells true 2 (flatP (a.take (n + 1)))]) (a.take (n + 1)) (.slice (some ⟨J9.length, 0, none⟩) (a.take (n + 1)).length (a.take (n + 1)).length) := Pairs.last _
  have x10 : Ext J9 (J9 ++ [AObj.cells true 2 (flatP (a.take (n + 1)))]) := (Ext.refl J9).app _
  obtain ⟨J10, hJ10⟩ : ∃ J10, J9 ++ [AObj.cells true 2 (flatP (a.take (n + 1)))] = J10 := ⟨_, rfl⟩
  rw [hJ10] at hC x10 ⊢
  clear hJ10
  (repeat (first | refine yv ?_ | (apply ye; simp (disch := first|exact zz|fail) only [go_sem, n1_at (x10.cell c17)]; with_reducible rfl)))
  refine adraw_call (copyMap_c (har.ext x10) ld1) ?_
  have hD : Pairs (J10 ++ [.cells true 2 (flatP (a.drop n))]) (a.drop n) (.slice (some ⟨J10.length, 0, none⟩) (a.drop n).length (a.drop n).length) := Pairs.last _
  have x11 : Ext J10 (J10 ++ [AObj.cells true 2 (flatP (a.drop n))]) := (Ext.refl J10).app _
  obtain ⟨J11, hJ11⟩ : ∃ J11, J10 ++ [AObj.cells true 2 (flatP (a.drop n))] = J11 := ⟨_, rfl⟩
  rw [hJ11] at hD x11 ⊢
  clear hJ11
  (repeat (first | refine yv ?_ | (apply ye; simp (disch := first|exact zz|fail) only [go_sem]; with_reducible rfl)))
  have hjc := joined_c (hC.ext x11) hD lt1 ld1
  rw [q5', q6'] at hjc
  refine adraw_call (N := retN 2 a.length (flatP a)) hjc ?_
  have hwr : Pairs (J11 ++ retN 2 a.length (flatP a)) a (retV J11 a.length) := Pairs.ret
  have x12 : Ext J11 (J11 ++ retN 2 a.length (flatP a)) := ⟨_, rfl⟩
  obtain ⟨ww, hww⟩ : ∃ ww, retV J11 a.length = ww := ⟨_, rfl⟩
  obtain ⟨J12, hJ12⟩ : ∃ J12, J11 ++ retN 2 a.length (flatP a) = J12 := ⟨_, rfl⟩
  rw [hww, hJ12] at hwr
  rw [hJ12] at x12
  rw [hww, hJ12]
  clear hJ12 hww hjc
  have wwa := hwr.atom
  (refine adraw_until (by simp (disch := first|exact zz|fail) only [go_sem]; with_reducible rfl) ?_)
  refine adraw_nil ?_
  refine fillF_agg (us := [ww]) rfl rfl (by simp [wwa]) ?_
  refine fillF_nil ?_
  have c19 : (J12 ++ [AObj.cells true 0 [ww]])[J12.length]? = some (.cells true 0 [ww]) := at_new
  have x13 : Ext J12 (J12 ++ [AObj.cells true 0 [ww]]) := (Ext.refl J12).app _
  generalize (J12 ++ [AObj.cells true 0 [ww]] : AHeap) = J13 at c19 x13
  have hwr := hwr.ext x13
  have x913 := x10.trans (x11.trans (x12.trans x13))
  have g13 := x913.cell g9
  have ka13 := ka9.ext x913
  (repeat (first | refine yw ?_ | ((first | apply yd | apply ye); simp (disch := first|exact zz|fail) only [go_sem, de0, n1_at c19, n1_at g13]; with_reducible rfl)))
  (refine aops_call_to (sameMap_c hwr ka13 (by omega)) ?_)
  (repeat (first | refine yw ?_ | ((first | apply yd | apply ye); simp (disch := first|exact zz|fail) only [go_sem, decide_eq_self]; with_reducible rfl)))
  exact fin_1 rfl
end Go.Lq

namespace Go.Lq
open Go Go.ChangeShapes Go.WideShapes Go.ChangeAt Go.RowKit
open Go.Proofs

set_option maxRecDepth 100000 in
theorem lifted13 (os : Os) (started : os.Started) (X : Type) (enc : TypeId × Value → X) :
    ReturnsInHanded {} Try.checked os 13 .any (Yteimgikhanhgiaa.Rows.speedPartsSpec.pre6 enc Try.prog Try.f13 [] false) (Yteimgikhanhgiaa.Rows.speedPartsSpec.post enc Try.prog Try.f13 false true false false) := by
  refine returnsInHanded_of_plain_shaped (C := Try.checked) own_knob started (by kernel_rfl) Try.func13
    (ChangeSpec.witness6 (enc := enc) (C := Try.checked) false ⟨#[], #[.agg #[.slice none 0 0], .agg #[.slice none 0 0], .agg #[.int .i64 0, .int .i64 0]], []⟩ 12 (by kernel_rfl) (by kernel_rfl) (by kernel_rfl) (by kernel_rfl)) ?_
  intro W base args ds gs before hsh hval hW
  have hWw := hW
  obtain ⟨p, q, hA, _⟩ := hW
  refine (calls_of_law (d := 20) (of_shaped hsh) globs glob_at hA (fun j t v h1 h2 => hval j t v (by simpa using h1) (by simpa using h2)) (by kernel_rfl) fun H avs hx h => ?_).mono fun e W' ⟨he, hB⟩ => ?_
  · exact law13 (by rw [show Try.f13.params = #[42, 42, 70] from Try.params13] at h; exact h)
  · subst he
    exact ⟨_, rfl, law_post (bt := 4) laid_out rfl Try.underlying4 (by kernel_rfl) (by kernel_rfl) hWw (fun ds hd => by
      rw [show Try.f13.params = #[42, 42, 70] from Try.params13] at hd
      match ds, hd with
      | [a, b, c], _ => rfl) hB⟩
theorem unf13 : Try.prog.unfollowed 13 = true := by kernel_rfl
theorem rec13 : Try.prog.recurses 13 = true := by kernel_rfl
theorem named13 : Try.prog.varsNamed 13 = Yteimgikhanhgiaa.Rows.speedPartsRow.named := by kernel_rfl
theorem facts13 : joinedFacts Try.prog 13 Try.f13 Yteimgikhanhgiaa.Rows.speedPartsSpec Yteimgikhanhgiaa.Rows.speedPartsRow = true := by
  unfold joinedFacts
  rw [may_enter, stops_heard, maps_rowed, laid_out, lifts_final, make_is, unf13, rec13, named13]
  kernel_rfl
theorem holds13 : Yteimgikhanhgiaa.Rows.SpeedPartsSaid :=
  OpenClaim.holds_of_wide 13 Try.f13 rfl rfl rfl rfl rfl rfl rfl ⟨rfl, rfl, rfl, rfl, rfl⟩ rfl rfl rfl rfl rfl (by kernel_rfl) Try.func13 facts13
    (of_decide_eq_true (by kernel_rfl)) (by unfold Func.isWrapper; first | (rw [if_pos (by decide +kernel)]; kernel_rfl) | (rw [if_neg (by decide +kernel)]; exact ⟨rfl, rfl⟩))
    (fun os started H enc _ => lifted13 os started H enc)
end Go.Lq
namespace Go.Proofs.Yteimgikhanhgiaa
open Go Go.Lq
theorem speedParts_proved : Rows.SpeedPartsSaid := holds13
end Go.Proofs.Yteimgikhanhgiaa
