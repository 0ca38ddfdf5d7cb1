/- Towards GrooveProved of seat YtnciaodebdmfhaaDoor: it returns true for every input. Made out of the proof's own texts, merged. -/
import Derived.Test.YtnciaodebdmfhaaDoorV152
set_option linter.unusedSimpArgs false
set_option maxRecDepth 100000
namespace Go.Lq
open Go
open Go.Proofs

theorem store_ptr {k e : Nat} {H : AHeap} {vs : List Value} {v : Value} {i : Nat} (h : H[k]? = some (.cells true e vs)) (hi : i < vs.length) (ha : isAtom v = true) (hc : v.cells = ⟨[v]⟩) :
    storeR 1 (.pointer (some ⟨k, i, none⟩)) v H = some (undef, H.set k (.cells true e (vs.set i v))) := by
  have := store_cell (n := 0) (c := 0) h hi ha hc
  simpa [addrOf] using this

def pathBad (w : Int) (p : List Int) (i : Nat) : Int :=
  if 0 ≤ p.getD i 0 ∧ p.getD i 0 ≤ w - 1 then (if i = 0 ∨ (-1 ≤ p.getD i 0 - p.getD (i - 1) 0 ∧ p.getD i 0 - p.getD (i - 1) 0 ≤ 1) then 0 else 9) else 6
def pathGo (w : Int) (p : List Int) : Nat → Nat → Int
  | 0, _ => 0
  | n + 1, i => if pathBad w p i = 0 then pathGo w p n (i + 1) else pathBad w p i
def pathErrL (ll : List (List Int)) (p : List Int) : Int := if p.length = ll.length then pathGo ((ll.getD 0 []).length) p p.length 0 else 10
theorem pathGo_all {w : Int} {p : List Int} : ∀ {n i : Nat}, pathGo w p n i = 0 → ∀ j, i ≤ j → j < i + n → pathBad w p j = 0
  | 0, i, _, j, h1, h2 => by omega
  | n + 1, i, h, j, h1, h2 => by
    unfold pathGo at h
    split at h
    · rename_i hb
      by_cases hj : j = i
      · subst hj; exact hb
      · exact pathGo_all h j (by omega) (by omega)
    · rename_i hb; exact absurd h hb
theorem pathBad_ok {w : Int} {p : List Int} {i : Nat} (h : pathBad w p i = 0) : (0 ≤ p.getD i 0 ∧ p.getD i 0 ≤ w - 1) ∧ (i = 0 ∨ (-1 ≤ p.getD i 0 - p.getD (i - 1) 0 ∧ p.getD i 0 - p.getD (i - 1) 0 ≤ 1)) := by
  unfold pathBad at h
  split at h
  · rename_i h1
    split at h
    · rename_i h2; exact ⟨h1, h2⟩
    · cases h
  · cases h
theorem pathErr_ok {ll : List (List Int)} {p : List Int} (h : pathErrL ll p = 0) : p.length = ll.length ∧ ∀ i, i < p.length → (0 ≤ p.getD i 0 ∧ p.getD i 0 ≤ ((ll.getD 0 []).length : Int) - 1) ∧ (i = 0 ∨ (-1 ≤ p.getD i 0 - p.getD (i - 1) 0 ∧ p.getD i 0 - p.getD (i - 1) 0 ≤ 1)) := by
  unfold pathErrL at h
  split at h
  · rename_i h1
    exact ⟨h1, fun i hi => pathBad_ok (pathGo_all h i (by omega) (by omega))⟩
  · cases h

section
variable {H : AHeap}
theorem copyTask_c {ll : List (List Int)} {vs : List Value} {v : Value} {bend : Int} (hL : Lists H ll vs v) (hb : ll.length ≤ 1000000) (hr : ∀ i, i < ll.length → (ll.getD i []).length ≤ 1000000) :
    ACall Go.Proofs.Tryd.prog 24 [.agg ⟨[v, .int .i64 bend]⟩] H fun w H' => w = .agg ⟨[retLV H ll, .int .i64 bend]⟩ ∧ H' = H ++ retLN H ll := by
  refine ACall.tidyL (f := fun s => .agg ⟨[s, .int .i64 bend]⟩) (wraps_agg2 (.int _ _)) ?_
  (refine a24 ?_; simp only [n24, List.replicate, List.length_cons, List.length_nil, List.cons_append, List.nil_append])
  ((repeat (first | refine q1 ?_ | refine q2 ?_ | refine q3 ?_ | refine q4 ?_ | refine q5 ?_ | refine q6 ?_ | refine q7 ?_ | refine q8 ?_ | refine q9 ?_ | refine qa ?_ | refine qb ?_ | refine qc ?_ | refine qd ?_ | refine qe (by decide) ?_ | refine qf ?_ | refine qg ?_ | ((first | apply aops_all | apply adraw_all); (simp (disch := first | exact List.all_nil | omega | (simp only [go_sem]; done) | (simp only [ln, List.length_map]; omega) | (repeat' first | assumption | exact Ext.refl _ | refine Ext.app ?_ _)) only [go_sem, hL.box2]; rfl)))); (try ((first | apply aops_until | apply adraw_until); (simp (disch := first | exact List.all_nil | omega | (simp only [go_sem]; done) | (simp only [ln, List.length_map]; omega) | (repeat' first | assumption | exact Ext.refl _ | refine Ext.app ?_ _)) only [go_sem, hL.box2]; rfl))))
  (simp only [List.length_append, List.length_cons, List.length_nil, Nat.zero_add, Nat.add_assoc, Nat.reduceAdd])
  obtain ⟨G, hG⟩ : ∃ G, G = H ++ [AObj.cells true 0 [v, .int .i64 bend]] ++ [AObj.cells true 0 [.slice none 0 0, .int .i64 0]] := ⟨_, rfl⟩
  have g0 : G[H.length]? = some (.cells true 0 [v, .int .i64 bend]) := by rw [hG]; exact at_app at_new
  have g1 : G[H.length + 1]? = some (.cells true 0 [.slice none 0 0, .int .i64 0]) := by rw [hG]; simp
  have xG : Ext H G := by rw [hG]; exact ((Ext.refl H).app _).app _
  have lG : G.length = H.length + 2 := by rw [hG]; simp
  rw [← hG]
  clear hG
  ((repeat (first | refine q1 ?_ | refine q2 ?_ | refine q3 ?_ | refine q4 ?_ | refine q5 ?_ | refine q6 ?_ | refine q7 ?_ | refine q8 ?_ | refine q9 ?_ | refine qa ?_ | refine qb ?_ | refine qc ?_ | refine qd ?_ | refine qe (by decide) ?_ | refine qf ?_ | refine qg ?_ | ((first | apply aops_all | apply adraw_all); (simp (disch := first | exact List.all_nil | omega | (simp only [go_sem]; done) | (simp only [ln, List.length_map]; omega) | (repeat' first | assumption | exact Ext.refl _ | refine Ext.app ?_ _)) only [go_sem, load_at g0]; rfl)))); (try ((first | apply aops_until | apply adraw_until); (simp (disch := first | exact List.all_nil | omega | (simp only [go_sem]; done) | (simp only [ln, List.length_map]; omega) | (repeat' first | assumption | exact Ext.refl _ | refine Ext.app ?_ _)) only [go_sem, load_at g0]; rfl))))
  refine aops_call ((copyLists_c (hL.ext xG) hb hr).mono fun v1 H1 ⟨ho, hx⟩ => ?_)
  have h0 := hx.cell g0
  have h1 := hx.cell g1
  obtain ⟨sa, sn, sc, rfl⟩ := ho.shape
  ((repeat (first | refine q1 ?_ | refine q2 ?_ | refine q3 ?_ | refine q4 ?_ | refine q5 ?_ | refine q6 ?_ | refine q7 ?_ | refine q8 ?_ | refine q9 ?_ | refine qa ?_ | refine qb ?_ | refine qc ?_ | refine qd ?_ | refine qe (by decide) ?_ | refine qf ?_ | refine qg ?_ | ((first | apply aops_all | apply adraw_all); (simp (disch := first | exact List.all_nil | omega | (simp only [go_sem]; done) | (simp only [ln, List.length_map]; omega) | (repeat' first | assumption | exact Ext.refl _ | refine Ext.app ?_ _)) only [go_sem, store_ptr (v := .slice sa sn sc) (i := 0) h0 (by simp) rfl rfl]; rfl)))); (try ((first | apply aops_until | apply adraw_until); (simp (disch := first | exact List.all_nil | omega | (simp only [go_sem]; done) | (simp only [ln, List.length_map]; omega) | (repeat' first | assumption | exact Ext.refl _ | refine Ext.app ?_ _)) only [go_sem, store_ptr (v := .slice sa sn sc) (i := 0) h0 (by simp) rfl rfl]; rfl))))
  have h0' := get_set_self (d := .cells true 0 [.slice sa sn sc, .int .i64 bend]) h0
  have h1' : (H1.set H.length (.cells true 0 [.slice sa sn sc, .int .i64 bend]))[H.length + 1]? = some (.cells true 0 [.slice none 0 0, .int .i64 0]) := by rw [List.getElem?_set_ne (by omega)]; exact h1
  have xs : Ext H (H1.set H.length (.cells true 0 [.slice sa sn sc, .int .i64 bend])) := (xG.trans hx).set (Nat.le_refl _) _
  have os := ho.set (k := H.length) (by omega) (.cells true 0 [.slice sa sn sc, .int .i64 bend])
  generalize (H1.set H.length (.cells true 0 [.slice sa sn sc, .int .i64 bend]) : AHeap) = H2 at h0' h1' xs os
  ((repeat (first | refine q1 ?_ | refine q2 ?_ | refine q3 ?_ | refine q4 ?_ | refine q5 ?_ | refine q6 ?_ | refine q7 ?_ | refine q8 ?_ | refine q9 ?_ | refine qa ?_ | refine qb ?_ | refine qc ?_ | refine qd ?_ | refine qe (by decide) ?_ | refine qf ?_ | refine qg ?_ | ((first | apply aops_all | apply adraw_all); (simp (disch := first | exact List.all_nil | omega | (simp only [go_sem]; done) | (simp only [ln, List.length_map]; omega) | (repeat' first | assumption | exact Ext.refl _ | refine Ext.app ?_ _)) only [go_sem, loadN_at h0', store_at2v (a := .slice sa sn sc) (b := .int .i64 bend) h1' rfl rfl]; rfl)))); (try ((first | apply aops_until | apply adraw_until); (simp (disch := first | exact List.all_nil | omega | (simp only [go_sem]; done) | (simp only [ln, List.length_map]; omega) | (repeat' first | assumption | exact Ext.refl _ | refine Ext.app ?_ _)) only [go_sem, loadN_at h0', store_at2v (a := .slice sa sn sc) (b := .int .i64 bend) h1' rfl rfl]; rfl))))
  refine fin_l1 (u := .agg ⟨[.slice sa sn sc, .int .i64 bend]⟩) ?_ ?_
  · exact loadN_at (k := 0) (get_set_self h1') (by simp)
  · exact ⟨_, rfl, xs.set (by omega) _, (os.set (by omega) _).weaken xG.len⟩

theorem pathErr_c {ll : List (List Int)} {vs : List Value} {v vp : Value} {bend : Int} {p : List Int} (hL : Lists H ll vs v) (hp : Ints H p vp) (h0 : 0 < ll.length) (hb : ll.length ≤ 1000) (hw : (ll.getD 0 []).length ≤ 1000) :
    ACall Go.Proofs.Tryd.prog 134 [.agg ⟨[v, .int .i64 bend]⟩, vp] H fun v1 H1 => v1 = .int .i64 (pathErrL ll p) ∧ H1 = H := by
  refine ACall.drop (.int _ _) ?_
  (refine a134 ?_; simp only [n134, List.replicate, List.length_cons, List.length_nil, List.cons_append, List.nil_append])
  ((repeat (first | refine q1 ?_ | refine q2 ?_ | refine q3 ?_ | refine q4 ?_ | refine q5 ?_ | refine q6 ?_ | refine q7 ?_ | refine q8 ?_ | refine q9 ?_ | refine qa ?_ | refine qb ?_ | refine qc ?_ | refine qd ?_ | refine qe (by decide) ?_ | refine qf ?_ | refine qg ?_ | ((first | apply aops_all | apply adraw_all); (simp (disch := first | exact List.all_nil | omega | (simp only [go_sem]; done) | (simp only [ln, List.length_map]; omega) | (repeat' first | assumption | exact Ext.refl _ | refine Ext.app ?_ _)) only [go_sem, hL.box2]; rfl)))); (try ((first | apply aops_until | apply adraw_until); (simp (disch := first | exact List.all_nil | omega | (simp only [go_sem]; done) | (simp only [ln, List.length_map]; omega) | (repeat' first | assumption | exact Ext.refl _ | refine Ext.app ?_ _)) only [go_sem, hL.box2]; rfl))))
  have g0 : (H ++ [AObj.cells true 0 [v, .int .i64 bend]])[H.length]? = some (.cells true 0 [v, .int .i64 bend]) := at_new
  have xG : Ext H (H ++ [AObj.cells true 0 [v, .int .i64 bend]]) := (Ext.refl H).app _
  have hLg := hL.ext xG
  have hpg := hp.ext xG
  generalize (H ++ [AObj.cells true 0 [v, .int .i64 bend]] : AHeap) = G at g0 xG hLg hpg
  ((repeat (first | refine q1 ?_ | refine q2 ?_ | refine q3 ?_ | refine q4 ?_ | refine q5 ?_ | refine q6 ?_ | refine q7 ?_ | refine q8 ?_ | refine q9 ?_ | refine qa ?_ | refine qb ?_ | refine qc ?_ | refine qd ?_ | refine qe (by decide) ?_ | refine qf ?_ | refine qg ?_ | ((first | apply aops_all | apply adraw_all); (simp (disch := first | exact List.all_nil | omega | (simp only [go_sem]; done) | (simp only [ln, List.length_map]; omega) | (repeat' first | assumption | exact Ext.refl _ | refine Ext.app ?_ _)) only [go_sem, hLg.len, hLg.idx, hLg.load, hpg.len, hpg.idx, hpg.load, load_at g0]; rfl)))); (try ((first | apply aops_until | apply adraw_until); (simp (disch := first | exact List.all_nil | omega | (simp only [go_sem]; done) | (simp only [ln, List.length_map]; omega) | (repeat' first | assumption | exact Ext.refl _ | refine Ext.app ?_ _)) only [go_sem, hLg.len, hLg.idx, hLg.load, hpg.len, hpg.idx, hpg.load, load_at g0]; rfl))))
  refine cond_p rfl (fun hne => ?_) (fun heq => ?_)
  · ((repeat (first | refine q1 ?_ | refine q2 ?_ | refine q3 ?_ | refine q4 ?_ | refine q5 ?_ | refine q6 ?_ | refine q7 ?_ | refine q8 ?_ | refine q9 ?_ | refine qa ?_ | refine qb ?_ | refine qc ?_ | refine qd ?_ | refine qe (by decide) ?_ | refine qf ?_ | refine qg ?_ | ((first | apply aops_all | apply adraw_all); (simp (disch := first | exact List.all_nil | omega | (simp only [go_sem]; done) | (simp only [ln, List.length_map]; omega) | (repeat' first | assumption | exact Ext.refl _ | refine Ext.app ?_ _)) only [go_sem]; rfl)))); (try ((first | apply aops_until | apply adraw_until); (simp (disch := first | exact List.all_nil | omega | (simp only [go_sem]; done) | (simp only [ln, List.length_map]; omega) | (repeat' first | assumption | exact Ext.refl _ | refine Ext.app ?_ _)) only [go_sem]; rfl))))
    exact fin_1 ⟨by unfold pathErrL; rw [if_neg (by omega)]; rfl, xG⟩
  have he : p.length = ll.length := by omega
  have e0 : pathErrL ll p = pathGo ((ll.getD 0 []).length) p p.length 0 := by unfold pathErrL; rw [if_pos he]
  ((repeat (first | refine q1 ?_ | refine q2 ?_ | refine q3 ?_ | refine q4 ?_ | refine q5 ?_ | refine q6 ?_ | refine q7 ?_ | refine q8 ?_ | refine q9 ?_ | refine qa ?_ | refine qb ?_ | refine qc ?_ | refine qd ?_ | refine qe (by decide) ?_ | refine qf ?_ | refine qg ?_ | ((first | apply aops_all | apply adraw_all); (simp (disch := first | exact List.all_nil | omega | (simp only [go_sem]; done) | (simp only [ln, List.length_map]; omega) | (repeat' first | assumption | exact Ext.refl _ | refine Ext.app ?_ _)) only [go_sem, hpg.len, hpg.idx, hpg.load]; rfl)))); (try ((first | apply aops_until | apply adraw_until); (simp (disch := first | exact List.all_nil | omega | (simp only [go_sem]; done) | (simp only [ln, List.length_map]; omega) | (repeat' first | assumption | exact Ext.refl _ | refine Ext.app ?_ _)) only [go_sem, hpg.len, hpg.idx, hpg.load]; rfl))))
  refine awp_loop_n [false, true, true, false, false, false, false, false, false, false, false, false, false, false, true, true, true, false, false, false, false, false, false, false, false, false, false, false, false, false, false, false, false, false, false, false, false, false, false, false, false] p.length (fun i e H' => H' = G ∧ e = [junk, vp, .pointer (some ⟨H.length, 0, none⟩), junk, junk, junk, junk, junk, junk, junk, junk, junk, junk, junk, vp, .int .i64 p.length, .int .i64 i, junk, junk, junk, junk, junk, junk, junk, junk, junk, junk, junk, junk, junk, junk, junk, junk, junk, junk, junk, junk, junk, junk, junk, junk] ∧ pathGo ((ll.getD 0 []).length) p (p.length - i) i = pathErrL ll p ∧
    ∀ j, j < i → 0 ≤ p.getD j 0 ∧ p.getD j 0 ≤ ((ll.getD 0 []).length : Int) - 1) ?_ ?_
  · exact ⟨rfl, by simp [forget], by rw [e0]; rfl, by omega⟩
  rintro i e H1 hi ⟨rfl, rfl, hv, hbef⟩
  ((repeat (first | refine q1 ?_ | refine q2 ?_ | refine q3 ?_ | refine q4 ?_ | refine q5 ?_ | refine q6 ?_ | refine q7 ?_ | refine q8 ?_ | refine q9 ?_ | refine qa ?_ | refine qb ?_ | refine qc ?_ | refine qd ?_ | refine qe (by decide) ?_ | refine qf ?_ | refine qg ?_ | ((first | apply aops_all | apply adraw_all); (simp (disch := first | exact List.all_nil | omega | (simp only [go_sem]; done) | (simp only [ln, List.length_map]; omega) | (repeat' first | assumption | exact Ext.refl _ | refine Ext.app ?_ _)) only [go_sem]; rfl)))); (try ((first | apply aops_until | apply adraw_until); (simp (disch := first | exact List.all_nil | omega | (simp only [go_sem]; done) | (simp only [ln, List.length_map]; omega) | (repeat' first | assumption | exact Ext.refl _ | refine Ext.app ?_ _)) only [go_sem]; rfl))))
  refine cond_p rfl (fun hlt => ?_) (fun hge => ?_)
  rotate_left 1
  · rw [show p.length - i = 0 by omega] at hv
    ((repeat (first | refine q1 ?_ | refine q2 ?_ | refine q3 ?_ | refine q4 ?_ | refine q5 ?_ | refine q6 ?_ | refine q7 ?_ | refine q8 ?_ | refine q9 ?_ | refine qa ?_ | refine qb ?_ | refine qc ?_ | refine qd ?_ | refine qe (by decide) ?_ | refine qf ?_ | refine qg ?_ | ((first | apply aops_all | apply adraw_all); (simp (disch := first | exact List.all_nil | omega | (simp only [go_sem]; done) | (simp only [ln, List.length_map]; omega) | (repeat' first | assumption | exact Ext.refl _ | refine Ext.app ?_ _)) only [go_sem]; rfl)))); (try ((first | apply aops_until | apply adraw_until); (simp (disch := first | exact List.all_nil | omega | (simp only [go_sem]; done) | (simp only [ln, List.length_map]; omega) | (repeat' first | assumption | exact Ext.refl _ | refine Ext.app ?_ _)) only [go_sem]; rfl))))
    exact fin_1 ⟨by rw [← hv]; rfl, xG⟩
  have hi' : i < p.length := by omega
  rw [show p.length - i = (p.length - (i + 1)) + 1 by omega, pathGo] at hv
  ((repeat (first | refine q1 ?_ | refine q2 ?_ | refine q3 ?_ | refine q4 ?_ | refine q5 ?_ | refine q6 ?_ | refine q7 ?_ | refine q8 ?_ | refine q9 ?_ | refine qa ?_ | refine qb ?_ | refine qc ?_ | refine qd ?_ | refine qe (by decide) ?_ | refine qf ?_ | refine qg ?_ | ((first | apply aops_all | apply adraw_all); (simp (disch := first | exact List.all_nil | omega | (simp only [go_sem]; done) | (simp only [ln, List.length_map]; omega) | (repeat' first | assumption | exact Ext.refl _ | refine Ext.app ?_ _)) only [go_sem, hpg.len, hpg.idx, hpg.load, loadN_at g0]; rfl)))); (try ((first | apply aops_until | apply adraw_until); (simp (disch := first | exact List.all_nil | omega | (simp only [go_sem]; done) | (simp only [ln, List.length_map]; omega) | (repeat' first | assumption | exact Ext.refl _ | refine Ext.app ?_ _)) only [go_sem, hpg.len, hpg.idx, hpg.load, loadN_at g0]; rfl))))
  refine aops_call_to (columns_c hLg h0) ?_
  ((repeat (first | refine q1 ?_ | refine q2 ?_ | refine q3 ?_ | refine q4 ?_ | refine q5 ?_ | refine q6 ?_ | refine q7 ?_ | refine q8 ?_ | refine q9 ?_ | refine qa ?_ | refine qb ?_ | refine qc ?_ | refine qd ?_ | refine qe (by decide) ?_ | refine qf ?_ | refine qg ?_ | ((first | apply aops_all | apply adraw_all); (simp (disch := first | exact List.all_nil | omega | (simp only [go_sem]; done) | (simp only [ln, List.length_map]; omega) | (repeat' first | assumption | exact Ext.refl _ | refine Ext.app ?_ _)) only [go_sem]; rfl)))); (try ((first | apply aops_until | apply adraw_until); (simp (disch := first | exact List.all_nil | omega | (simp only [go_sem]; done) | (simp only [ln, List.length_map]; omega) | (repeat' first | assumption | exact Ext.refl _ | refine Ext.app ?_ _)) only [go_sem]; rfl))))
  refine aops_call_to (within_c _ _ _) ?_
  ((repeat (first | refine q1 ?_ | refine q2 ?_ | refine q3 ?_ | refine q4 ?_ | refine q5 ?_ | refine q6 ?_ | refine q7 ?_ | refine q8 ?_ | refine q9 ?_ | refine qa ?_ | refine qb ?_ | refine qc ?_ | refine qd ?_ | refine qe (by decide) ?_ | refine qf ?_ | refine qg ?_ | ((first | apply aops_all | apply adraw_all); (simp (disch := first | exact List.all_nil | omega | (simp only [go_sem]; done) | (simp only [ln, List.length_map]; omega) | (repeat' first | assumption | exact Ext.refl _ | refine Ext.app ?_ _)) only [go_sem]; rfl)))); (try ((first | apply aops_until | apply adraw_until); (simp (disch := first | exact List.all_nil | omega | (simp only [go_sem]; done) | (simp only [ln, List.length_map]; omega) | (repeat' first | assumption | exact Ext.refl _ | refine Ext.app ?_ _)) only [go_sem]; rfl))))
  refine cond_n rfl (fun hout => ?_) (fun hin => ?_)
  · have hb6 : pathBad ((ll.getD 0 []).length) p i = 6 := by unfold pathBad; rw [if_neg hout]
    rw [hb6, if_neg (by decide)] at hv
    ((repeat (first | refine q1 ?_ | refine q2 ?_ | refine q3 ?_ | refine q4 ?_ | refine q5 ?_ | refine q6 ?_ | refine q7 ?_ | refine q8 ?_ | refine q9 ?_ | refine qa ?_ | refine qb ?_ | refine qc ?_ | refine qd ?_ | refine qe (by decide) ?_ | refine qf ?_ | refine qg ?_ | ((first | apply aops_all | apply adraw_all); (simp (disch := first | exact List.all_nil | omega | (simp only [go_sem]; done) | (simp only [ln, List.length_map]; omega) | (repeat' first | assumption | exact Ext.refl _ | refine Ext.app ?_ _)) only [go_sem]; rfl)))); (try ((first | apply aops_until | apply adraw_until); (simp (disch := first | exact List.all_nil | omega | (simp only [go_sem]; done) | (simp only [ln, List.length_map]; omega) | (repeat' first | assumption | exact Ext.refl _ | refine Ext.app ?_ _)) only [go_sem]; rfl))))
    exact fin_1 ⟨by rw [← hv]; rfl, xG⟩
  have next : pathBad ((ll.getD 0 []).length) p i = 0 → ∀ j, j < i + 1 → 0 ≤ p.getD j 0 ∧ p.getD j 0 ≤ ((ll.getD 0 []).length : Int) - 1 := fun _ j hj => by
    by_cases hji : j = i
    · subst hji; exact hin
    · exact hbef j (by omega)
  by_cases hi0 : i = 0
  · have hb0 : pathBad ((ll.getD 0 []).length) p i = 0 := by unfold pathBad; rw [if_pos hin, if_pos (.inl hi0)]
    rw [hb0, if_pos rfl] at hv
    ((repeat (first | refine q1 ?_ | refine q2 ?_ | refine q3 ?_ | refine q4 ?_ | refine q5 ?_ | refine q6 ?_ | refine q7 ?_ | refine q8 ?_ | refine q9 ?_ | refine qa ?_ | refine qb ?_ | refine qc ?_ | refine qd ?_ | refine qe (by decide) ?_ | refine qf ?_ | refine qg ?_ | ((first | apply aops_all | apply adraw_all); (simp (disch := first | exact List.all_nil | omega | (simp only [go_sem]; done) | (simp only [ln, List.length_map]; omega) | (repeat' first | assumption | exact Ext.refl _ | refine Ext.app ?_ _)) only [go_sem, dec_f (show ¬ 0 < (i : Int) by omega)]; rfl)))); (try ((first | apply aops_until | apply adraw_until); (simp (disch := first | exact List.all_nil | omega | (simp only [go_sem]; done) | (simp only [ln, List.length_map]; omega) | (repeat' first | assumption | exact Ext.refl _ | refine Ext.app ?_ _)) only [go_sem, dec_f (show ¬ 0 < (i : Int) by omega)]; rfl))))
    refine cond_f rfl ?_
    ((repeat (first | refine q1 ?_ | refine q2 ?_ | refine q3 ?_ | refine q4 ?_ | refine q5 ?_ | refine q6 ?_ | refine q7 ?_ | refine q8 ?_ | refine q9 ?_ | refine qa ?_ | refine qb ?_ | refine qc ?_ | refine qd ?_ | refine qe (by decide) ?_ | refine qf ?_ | refine qg ?_ | ((first | apply aops_all | apply adraw_all); (simp (disch := first | exact List.all_nil | omega | (simp only [go_sem]; done) | (simp only [ln, List.length_map]; omega) | (repeat' first | assumption | exact Ext.refl _ | refine Ext.app ?_ _)) only [go_sem]; rfl)))); (try ((first | apply aops_until | apply adraw_until); (simp (disch := first | exact List.all_nil | omega | (simp only [go_sem]; done) | (simp only [ln, List.length_map]; omega) | (repeat' first | assumption | exact Ext.refl _ | refine Ext.app ?_ _)) only [go_sem]; rfl))))
    exact ⟨by omega, rfl, by simp [forget], hv, next hb0⟩
  · have hprev := hbef (i - 1) (by omega)
    have c1 : ((i : Int) - 1) = ((i - 1 : Nat) : Int) := by omega
    ((repeat (first | refine q1 ?_ | refine q2 ?_ | refine q3 ?_ | refine q4 ?_ | refine q5 ?_ | refine q6 ?_ | refine q7 ?_ | refine q8 ?_ | refine q9 ?_ | refine qa ?_ | refine qb ?_ | refine qc ?_ | refine qd ?_ | refine qe (by decide) ?_ | refine qf ?_ | refine qg ?_ | ((first | apply aops_all | apply adraw_all); (simp (disch := first | exact List.all_nil | omega | (simp only [go_sem]; done) | (simp only [ln, List.length_map]; omega) | (repeat' first | assumption | exact Ext.refl _ | refine Ext.app ?_ _)) only [go_sem, hpg.len, hpg.idx, hpg.load, dec_t (show 0 < (i : Int) by omega), c1]; rfl)))); (try ((first | apply aops_until | apply adraw_until); (simp (disch := first | exact List.all_nil | omega | (simp only [go_sem]; done) | (simp only [ln, List.length_map]; omega) | (repeat' first | assumption | exact Ext.refl _ | refine Ext.app ?_ _)) only [go_sem, hpg.len, hpg.idx, hpg.load, dec_t (show 0 < (i : Int) by omega), c1]; rfl))))
    refine aops_call_to (isSized_c _ _ (by omega)) ?_
    ((repeat (first | refine q1 ?_ | refine q2 ?_ | refine q3 ?_ | refine q4 ?_ | refine q5 ?_ | refine q6 ?_ | refine q7 ?_ | refine q8 ?_ | refine q9 ?_ | refine qa ?_ | refine qb ?_ | refine qc ?_ | refine qd ?_ | refine qe (by decide) ?_ | refine qf ?_ | refine qg ?_ | ((first | apply aops_all | apply adraw_all); (simp (disch := first | exact List.all_nil | omega | (simp only [go_sem]; done) | (simp only [ln, List.length_map]; omega) | (repeat' first | assumption | exact Ext.refl _ | refine Ext.app ?_ _)) only [go_sem]; rfl)))); (try ((first | apply aops_until | apply adraw_until); (simp (disch := first | exact List.all_nil | omega | (simp only [go_sem]; done) | (simp only [ln, List.length_map]; omega) | (repeat' first | assumption | exact Ext.refl _ | refine Ext.app ?_ _)) only [go_sem]; rfl))))
    refine cond_n rfl (fun hout => ?_) (fun hin2 => ?_)
    · have hb9 : pathBad ((ll.getD 0 []).length) p i = 9 := by unfold pathBad; rw [if_pos hin, if_neg (by omega)]
      rw [hb9, if_neg (by decide)] at hv
      ((repeat (first | refine q1 ?_ | refine q2 ?_ | refine q3 ?_ | refine q4 ?_ | refine q5 ?_ | refine q6 ?_ | refine q7 ?_ | refine q8 ?_ | refine q9 ?_ | refine qa ?_ | refine qb ?_ | refine qc ?_ | refine qd ?_ | refine qe (by decide) ?_ | refine qf ?_ | refine qg ?_ | ((first | apply aops_all | apply adraw_all); (simp (disch := first | exact List.all_nil | omega | (simp only [go_sem]; done) | (simp only [ln, List.length_map]; omega) | (repeat' first | assumption | exact Ext.refl _ | refine Ext.app ?_ _)) only [go_sem]; rfl)))); (try ((first | apply aops_until | apply adraw_until); (simp (disch := first | exact List.all_nil | omega | (simp only [go_sem]; done) | (simp only [ln, List.length_map]; omega) | (repeat' first | assumption | exact Ext.refl _ | refine Ext.app ?_ _)) only [go_sem]; rfl))))
      exact fin_1 ⟨by rw [← hv]; rfl, xG⟩
    · have hb0 : pathBad ((ll.getD 0 []).length) p i = 0 := by unfold pathBad; rw [if_pos hin, if_pos (.inr (by omega))]
      rw [hb0, if_pos rfl] at hv
      ((repeat (first | refine q1 ?_ | refine q2 ?_ | refine q3 ?_ | refine q4 ?_ | refine q5 ?_ | refine q6 ?_ | refine q7 ?_ | refine q8 ?_ | refine q9 ?_ | refine qa ?_ | refine qb ?_ | refine qc ?_ | refine qd ?_ | refine qe (by decide) ?_ | refine qf ?_ | refine qg ?_ | ((first | apply aops_all | apply adraw_all); (simp (disch := first | exact List.all_nil | omega | (simp only [go_sem]; done) | (simp only [ln, List.length_map]; omega) | (repeat' first | assumption | exact Ext.refl _ | refine Ext.app ?_ _)) only [go_sem]; rfl)))); (try ((first | apply aops_until | apply adraw_until); (simp (disch := first | exact List.all_nil | omega | (simp only [go_sem]; done) | (simp only [ln, List.length_map]; omega) | (repeat' first | assumption | exact Ext.refl _ | refine Ext.app ?_ _)) only [go_sem]; rfl))))
      exact ⟨by omega, rfl, by simp [forget], hv, next hb0⟩

theorem refPathErr_c {ll : List (List Int)} {vs : List Value} {v vp : Value} {bend : Int} {p : List Int} (hL : Lists H ll vs v) (hp : Ints H p vp) (h0 : 0 < ll.length) (hb : ll.length ≤ 1000) (hw : (ll.getD 0 []).length ≤ 1000) :
    ACall Go.Proofs.Tryd.prog 60 [.agg ⟨[v, .int .i64 bend]⟩, vp] H fun v1 H1 => v1 = .int .i64 (pathErrL ll p) ∧ H1 = H := by
  refine ACall.drop (.int _ _) ?_
  (refine a60 ?_; simp only [n60, List.replicate, List.length_cons, List.length_nil, List.cons_append, List.nil_append])
  ((repeat (first | refine q1 ?_ | refine q2 ?_ | refine q3 ?_ | refine q4 ?_ | refine q5 ?_ | refine q6 ?_ | refine q7 ?_ | refine q8 ?_ | refine q9 ?_ | refine qa ?_ | refine qb ?_ | refine qc ?_ | refine qd ?_ | refine qe (by decide) ?_ | refine qf ?_ | refine qg ?_ | ((first | apply aops_all | apply adraw_all); (simp (disch := first | exact List.all_nil | omega | (simp only [go_sem]; done) | (simp only [ln, List.length_map]; omega) | (repeat' first | assumption | exact Ext.refl _ | refine Ext.app ?_ _)) only [go_sem, hL.box2]; rfl)))); (try ((first | apply aops_until | apply adraw_until); (simp (disch := first | exact List.all_nil | omega | (simp only [go_sem]; done) | (simp only [ln, List.length_map]; omega) | (repeat' first | assumption | exact Ext.refl _ | refine Ext.app ?_ _)) only [go_sem, hL.box2]; rfl))))
  have g0 : (H ++ [AObj.cells true 0 [v, .int .i64 bend]])[H.length]? = some (.cells true 0 [v, .int .i64 bend]) := at_new
  have xG : Ext H (H ++ [AObj.cells true 0 [v, .int .i64 bend]]) := (Ext.refl H).app _
  have hLg := hL.ext xG
  have hpg := hp.ext xG
  generalize (H ++ [AObj.cells true 0 [v, .int .i64 bend]] : AHeap) = G at g0 xG hLg hpg
  ((repeat (first | refine q1 ?_ | refine q2 ?_ | refine q3 ?_ | refine q4 ?_ | refine q5 ?_ | refine q6 ?_ | refine q7 ?_ | refine q8 ?_ | refine q9 ?_ | refine qa ?_ | refine qb ?_ | refine qc ?_ | refine qd ?_ | refine qe (by decide) ?_ | refine qf ?_ | refine qg ?_ | ((first | apply aops_all | apply adraw_all); (simp (disch := first | exact List.all_nil | omega | (simp only [go_sem]; done) | (simp only [ln, List.length_map]; omega) | (repeat' first | assumption | exact Ext.refl _ | refine Ext.app ?_ _)) only [go_sem, hLg.len, hLg.idx, hLg.load, hpg.len, hpg.idx, hpg.load, load_at g0]; rfl)))); (try ((first | apply aops_until | apply adraw_until); (simp (disch := first | exact List.all_nil | omega | (simp only [go_sem]; done) | (simp only [ln, List.length_map]; omega) | (repeat' first | assumption | exact Ext.refl _ | refine Ext.app ?_ _)) only [go_sem, hLg.len, hLg.idx, hLg.load, hpg.len, hpg.idx, hpg.load, load_at g0]; rfl))))
  refine cond_p rfl (fun hne => ?_) (fun heq => ?_)
  · ((repeat (first | refine q1 ?_ | refine q2 ?_ | refine q3 ?_ | refine q4 ?_ | refine q5 ?_ | refine q6 ?_ | refine q7 ?_ | refine q8 ?_ | refine q9 ?_ | refine qa ?_ | refine qb ?_ | refine qc ?_ | refine qd ?_ | refine qe (by decide) ?_ | refine qf ?_ | refine qg ?_ | ((first | apply aops_all | apply adraw_all); (simp (disch := first | exact List.all_nil | omega | (simp only [go_sem]; done) | (simp only [ln, List.length_map]; omega) | (repeat' first | assumption | exact Ext.refl _ | refine Ext.app ?_ _)) only [go_sem]; rfl)))); (try ((first | apply aops_until | apply adraw_until); (simp (disch := first | exact List.all_nil | omega | (simp only [go_sem]; done) | (simp only [ln, List.length_map]; omega) | (repeat' first | assumption | exact Ext.refl _ | refine Ext.app ?_ _)) only [go_sem]; rfl))))
    exact fin_1 ⟨by unfold pathErrL; rw [if_neg (by omega)]; rfl, xG⟩
  have he : p.length = ll.length := by omega
  have e0 : pathErrL ll p = pathGo ((ll.getD 0 []).length) p p.length 0 := by unfold pathErrL; rw [if_pos he]
  ((repeat (first | refine q1 ?_ | refine q2 ?_ | refine q3 ?_ | refine q4 ?_ | refine q5 ?_ | refine q6 ?_ | refine q7 ?_ | refine q8 ?_ | refine q9 ?_ | refine qa ?_ | refine qb ?_ | refine qc ?_ | refine qd ?_ | refine qe (by decide) ?_ | refine qf ?_ | refine qg ?_ | ((first | apply aops_all | apply adraw_all); (simp (disch := first | exact List.all_nil | omega | (simp only [go_sem]; done) | (simp only [ln, List.length_map]; omega) | (repeat' first | assumption | exact Ext.refl _ | refine Ext.app ?_ _)) only [go_sem, hpg.len, hpg.idx, hpg.load]; rfl)))); (try ((first | apply aops_until | apply adraw_until); (simp (disch := first | exact List.all_nil | omega | (simp only [go_sem]; done) | (simp only [ln, List.length_map]; omega) | (repeat' first | assumption | exact Ext.refl _ | refine Ext.app ?_ _)) only [go_sem, hpg.len, hpg.idx, hpg.load]; rfl))))
  refine awp_loop_n [false, true, true, false, false, true, false, false, false, false, false, false, false, false, false, false, false, false, false, false, false, false, false, false, false, false, false, false, false, false, false, false, false, false, false, false, false, false, false, false, false, false, false, false, false, false] p.length (fun i e H' => H' = G ∧ e = [junk, vp, .pointer (some ⟨H.length, 0, none⟩), junk, junk, .int .i64 i, junk, junk, junk, junk, junk, junk, junk, junk, junk, junk, junk, junk, junk, junk, junk, junk, junk, junk, junk, junk, junk, junk, junk, junk, junk, junk, junk, junk, junk, junk, junk, junk, junk, junk, junk, junk, junk, junk, junk, junk] ∧ pathGo ((ll.getD 0 []).length) p (p.length - i) i = pathErrL ll p ∧
    ∀ j, j < i → 0 ≤ p.getD j 0 ∧ p.getD j 0 ≤ ((ll.getD 0 []).length : Int) - 1) ?_ ?_
  · exact ⟨rfl, by simp [forget], by rw [e0]; rfl, by omega⟩
  rintro i e H1 hi ⟨rfl, rfl, hv, hbef⟩
  ((repeat (first | refine q1 ?_ | refine q2 ?_ | refine q3 ?_ | refine q4 ?_ | refine q5 ?_ | refine q6 ?_ | refine q7 ?_ | refine q8 ?_ | refine q9 ?_ | refine qa ?_ | refine qb ?_ | refine qc ?_ | refine qd ?_ | refine qe (by decide) ?_ | refine qf ?_ | refine qg ?_ | ((first | apply aops_all | apply adraw_all); (simp (disch := first | exact List.all_nil | omega | (simp only [go_sem]; done) | (simp only [ln, List.length_map]; omega) | (repeat' first | assumption | exact Ext.refl _ | refine Ext.app ?_ _)) only [go_sem, hpg.len, hpg.idx, hpg.load]; rfl)))); (try ((first | apply aops_until | apply adraw_until); (simp (disch := first | exact List.all_nil | omega | (simp only [go_sem]; done) | (simp only [ln, List.length_map]; omega) | (repeat' first | assumption | exact Ext.refl _ | refine Ext.app ?_ _)) only [go_sem, hpg.len, hpg.idx, hpg.load]; rfl))))
  refine cond_p rfl (fun hlt => ?_) (fun hge => ?_)
  rotate_left 1
  · rw [show p.length - i = 0 by omega] at hv
    ((repeat (first | refine q1 ?_ | refine q2 ?_ | refine q3 ?_ | refine q4 ?_ | refine q5 ?_ | refine q6 ?_ | refine q7 ?_ | refine q8 ?_ | refine q9 ?_ | refine qa ?_ | refine qb ?_ | refine qc ?_ | refine qd ?_ | refine qe (by decide) ?_ | refine qf ?_ | refine qg ?_ | ((first | apply aops_all | apply adraw_all); (simp (disch := first | exact List.all_nil | omega | (simp only [go_sem]; done) | (simp only [ln, List.length_map]; omega) | (repeat' first | assumption | exact Ext.refl _ | refine Ext.app ?_ _)) only [go_sem]; rfl)))); (try ((first | apply aops_until | apply adraw_until); (simp (disch := first | exact List.all_nil | omega | (simp only [go_sem]; done) | (simp only [ln, List.length_map]; omega) | (repeat' first | assumption | exact Ext.refl _ | refine Ext.app ?_ _)) only [go_sem]; rfl))))
    exact fin_1 ⟨by rw [← hv]; rfl, xG⟩
  have hi' : i < p.length := by omega
  rw [show p.length - i = (p.length - (i + 1)) + 1 by omega, pathGo] at hv
  have hrow := hLg.row h0
  ((repeat (first | refine q1 ?_ | refine q2 ?_ | refine q3 ?_ | refine q4 ?_ | refine q5 ?_ | refine q6 ?_ | refine q7 ?_ | refine q8 ?_ | refine q9 ?_ | refine qa ?_ | refine qb ?_ | refine qc ?_ | refine qd ?_ | refine qe (by decide) ?_ | refine qf ?_ | refine qg ?_ | ((first | apply aops_all | apply adraw_all); (simp (disch := first | exact List.all_nil | omega | (simp only [go_sem]; done) | (simp only [ln, List.length_map]; omega) | (repeat' first | assumption | exact Ext.refl _ | refine Ext.app ?_ _)) only [go_sem, hpg.len, hpg.idx, hpg.load, hLg.len, hLg.idx, hLg.load, hrow.len, hrow.idx, hrow.load, load_at g0, show (0 : Int).toNat = 0 from rfl]; rfl)))); (try ((first | apply aops_until | apply adraw_until); (simp (disch := first | exact List.all_nil | omega | (simp only [go_sem]; done) | (simp only [ln, List.length_map]; omega) | (repeat' first | assumption | exact Ext.refl _ | refine Ext.app ?_ _)) only [go_sem, hpg.len, hpg.idx, hpg.load, hLg.len, hLg.idx, hLg.load, hrow.len, hrow.idx, hrow.load, load_at g0, show (0 : Int).toNat = 0 from rfl]; rfl))))
  refine adraw_call (N := []) (firstD (bwithin_c _ _ _)) ?_
  rw [List.append_nil]
  ((repeat (first | refine q1 ?_ | refine q2 ?_ | refine q3 ?_ | refine q4 ?_ | refine q5 ?_ | refine q6 ?_ | refine q7 ?_ | refine q8 ?_ | refine q9 ?_ | refine qa ?_ | refine qb ?_ | refine qc ?_ | refine qd ?_ | refine qe (by decide) ?_ | refine qf ?_ | refine qg ?_ | ((first | apply aops_all | apply adraw_all); (simp (disch := first | exact List.all_nil | omega | (simp only [go_sem]; done) | (simp only [ln, List.length_map]; omega) | (repeat' first | assumption | exact Ext.refl _ | refine Ext.app ?_ _)) only [go_sem]; rfl)))); (try ((first | apply aops_until | apply adraw_until); (simp (disch := first | exact List.all_nil | omega | (simp only [go_sem]; done) | (simp only [ln, List.length_map]; omega) | (repeat' first | assumption | exact Ext.refl _ | refine Ext.app ?_ _)) only [go_sem]; rfl))))
  refine cond_n rfl (fun hout => ?_) (fun hin => ?_)
  · have hb6 : pathBad ((ll.getD 0 []).length) p i = 6 := by unfold pathBad; rw [if_neg hout]
    rw [hb6, if_neg (by decide)] at hv
    ((repeat (first | refine q1 ?_ | refine q2 ?_ | refine q3 ?_ | refine q4 ?_ | refine q5 ?_ | refine q6 ?_ | refine q7 ?_ | refine q8 ?_ | refine q9 ?_ | refine qa ?_ | refine qb ?_ | refine qc ?_ | refine qd ?_ | refine qe (by decide) ?_ | refine qf ?_ | refine qg ?_ | ((first | apply aops_all | apply adraw_all); (simp (disch := first | exact List.all_nil | omega | (simp only [go_sem]; done) | (simp only [ln, List.length_map]; omega) | (repeat' first | assumption | exact Ext.refl _ | refine Ext.app ?_ _)) only [go_sem]; rfl)))); (try ((first | apply aops_until | apply adraw_until); (simp (disch := first | exact List.all_nil | omega | (simp only [go_sem]; done) | (simp only [ln, List.length_map]; omega) | (repeat' first | assumption | exact Ext.refl _ | refine Ext.app ?_ _)) only [go_sem]; rfl))))
    exact fin_1 ⟨by rw [← hv]; rfl, xG⟩
  have next : pathBad ((ll.getD 0 []).length) p i = 0 → ∀ j, j < i + 1 → 0 ≤ p.getD j 0 ∧ p.getD j 0 ≤ ((ll.getD 0 []).length : Int) - 1 := fun _ j hj => by
    by_cases hji : j = i
    · subst hji; exact hin
    · exact hbef j (by omega)
  by_cases hi0 : i = 0
  · have hb0 : pathBad ((ll.getD 0 []).length) p i = 0 := by unfold pathBad; rw [if_pos hin, if_pos (.inl hi0)]
    rw [hb0, if_pos rfl] at hv
    ((repeat (first | refine q1 ?_ | refine q2 ?_ | refine q3 ?_ | refine q4 ?_ | refine q5 ?_ | refine q6 ?_ | refine q7 ?_ | refine q8 ?_ | refine q9 ?_ | refine qa ?_ | refine qb ?_ | refine qc ?_ | refine qd ?_ | refine qe (by decide) ?_ | refine qf ?_ | refine qg ?_ | ((first | apply aops_all | apply adraw_all); (simp (disch := first | exact List.all_nil | omega | (simp only [go_sem]; done) | (simp only [ln, List.length_map]; omega) | (repeat' first | assumption | exact Ext.refl _ | refine Ext.app ?_ _)) only [go_sem, dec_f (show ¬ 0 < (i : Int) by omega)]; rfl)))); (try ((first | apply aops_until | apply adraw_until); (simp (disch := first | exact List.all_nil | omega | (simp only [go_sem]; done) | (simp only [ln, List.length_map]; omega) | (repeat' first | assumption | exact Ext.refl _ | refine Ext.app ?_ _)) only [go_sem, dec_f (show ¬ 0 < (i : Int) by omega)]; rfl))))
    refine cond_f rfl ?_
    ((repeat (first | refine q1 ?_ | refine q2 ?_ | refine q3 ?_ | refine q4 ?_ | refine q5 ?_ | refine q6 ?_ | refine q7 ?_ | refine q8 ?_ | refine q9 ?_ | refine qa ?_ | refine qb ?_ | refine qc ?_ | refine qd ?_ | refine qe (by decide) ?_ | refine qf ?_ | refine qg ?_ | ((first | apply aops_all | apply adraw_all); (simp (disch := first | exact List.all_nil | omega | (simp only [go_sem]; done) | (simp only [ln, List.length_map]; omega) | (repeat' first | assumption | exact Ext.refl _ | refine Ext.app ?_ _)) only [go_sem]; rfl)))); (try ((first | apply aops_until | apply adraw_until); (simp (disch := first | exact List.all_nil | omega | (simp only [go_sem]; done) | (simp only [ln, List.length_map]; omega) | (repeat' first | assumption | exact Ext.refl _ | refine Ext.app ?_ _)) only [go_sem]; rfl))))
    exact ⟨by omega, rfl, by simp [forget], hv, next hb0⟩
  · have hprev := hbef (i - 1) (by omega)
    have c1 : ((i : Int) - 1) = ((i - 1 : Nat) : Int) := by omega
    ((repeat (first | refine q1 ?_ | refine q2 ?_ | refine q3 ?_ | refine q4 ?_ | refine q5 ?_ | refine q6 ?_ | refine q7 ?_ | refine q8 ?_ | refine q9 ?_ | refine qa ?_ | refine qb ?_ | refine qc ?_ | refine qd ?_ | refine qe (by decide) ?_ | refine qf ?_ | refine qg ?_ | ((first | apply aops_all | apply adraw_all); (simp (disch := first | exact List.all_nil | omega | (simp only [go_sem]; done) | (simp only [ln, List.length_map]; omega) | (repeat' first | assumption | exact Ext.refl _ | refine Ext.app ?_ _)) only [go_sem, hpg.len, hpg.idx, hpg.load, dec_t (show 0 < (i : Int) by omega), c1]; rfl)))); (try ((first | apply aops_until | apply adraw_until); (simp (disch := first | exact List.all_nil | omega | (simp only [go_sem]; done) | (simp only [ln, List.length_map]; omega) | (repeat' first | assumption | exact Ext.refl _ | refine Ext.app ?_ _)) only [go_sem, hpg.len, hpg.idx, hpg.load, dec_t (show 0 < (i : Int) by omega), c1]; rfl))))
    refine adraw_call (N := []) (firstD (bwithin_c _ _ _)) ?_
    rw [List.append_nil]
    ((repeat (first | refine q1 ?_ | refine q2 ?_ | refine q3 ?_ | refine q4 ?_ | refine q5 ?_ | refine q6 ?_ | refine q7 ?_ | refine q8 ?_ | refine q9 ?_ | refine qa ?_ | refine qb ?_ | refine qc ?_ | refine qd ?_ | refine qe (by decide) ?_ | refine qf ?_ | refine qg ?_ | ((first | apply aops_all | apply adraw_all); (simp (disch := first | exact List.all_nil | omega | (simp only [go_sem]; done) | (simp only [ln, List.length_map]; omega) | (repeat' first | assumption | exact Ext.refl _ | refine Ext.app ?_ _)) only [go_sem]; rfl)))); (try ((first | apply aops_until | apply adraw_until); (simp (disch := first | exact List.all_nil | omega | (simp only [go_sem]; done) | (simp only [ln, List.length_map]; omega) | (repeat' first | assumption | exact Ext.refl _ | refine Ext.app ?_ _)) only [go_sem]; rfl))))
    refine cond_n rfl (fun hout => ?_) (fun hin2 => ?_)
    · have hb9 : pathBad ((ll.getD 0 []).length) p i = 9 := by unfold pathBad; rw [if_pos hin, if_neg (by omega)]
      rw [hb9, if_neg (by decide)] at hv
      ((repeat (first | refine q1 ?_ | refine q2 ?_ | refine q3 ?_ | refine q4 ?_ | refine q5 ?_ | refine q6 ?_ | refine q7 ?_ | refine q8 ?_ | refine q9 ?_ | refine qa ?_ | refine qb ?_ | refine qc ?_ | refine qd ?_ | refine qe (by decide) ?_ | refine qf ?_ | refine qg ?_ | ((first | apply aops_all | apply adraw_all); (simp (disch := first | exact List.all_nil | omega | (simp only [go_sem]; done) | (simp only [ln, List.length_map]; omega) | (repeat' first | assumption | exact Ext.refl _ | refine Ext.app ?_ _)) only [go_sem]; rfl)))); (try ((first | apply aops_until | apply adraw_until); (simp (disch := first | exact List.all_nil | omega | (simp only [go_sem]; done) | (simp only [ln, List.length_map]; omega) | (repeat' first | assumption | exact Ext.refl _ | refine Ext.app ?_ _)) only [go_sem]; rfl))))
      exact fin_1 ⟨by rw [← hv]; rfl, xG⟩
    · have hb0 : pathBad ((ll.getD 0 []).length) p i = 0 := by unfold pathBad; rw [if_pos hin, if_pos (.inr (by omega))]
      rw [hb0, if_pos rfl] at hv
      ((repeat (first | refine q1 ?_ | refine q2 ?_ | refine q3 ?_ | refine q4 ?_ | refine q5 ?_ | refine q6 ?_ | refine q7 ?_ | refine q8 ?_ | refine q9 ?_ | refine qa ?_ | refine qb ?_ | refine qc ?_ | refine qd ?_ | refine qe (by decide) ?_ | refine qf ?_ | refine qg ?_ | ((first | apply aops_all | apply adraw_all); (simp (disch := first | exact List.all_nil | omega | (simp only [go_sem]; done) | (simp only [ln, List.length_map]; omega) | (repeat' first | assumption | exact Ext.refl _ | refine Ext.app ?_ _)) only [go_sem]; rfl)))); (try ((first | apply aops_until | apply adraw_until); (simp (disch := first | exact List.all_nil | omega | (simp only [go_sem]; done) | (simp only [ln, List.length_map]; omega) | (repeat' first | assumption | exact Ext.refl _ | refine Ext.app ?_ _)) only [go_sem]; rfl))))
      exact ⟨by omega, rfl, by simp [forget], hv, next hb0⟩

/-- The error of a task and a path. -/
def openErrL (ll : List (List Int)) (bend : Int) (p : List Int) : Int := if taskErrL ll bend = 0 then pathErrL ll p else taskErrL ll bend
theorem taskErr_ok {ll : List (List Int)} {bend : Int} (h : taskErrL ll bend = 0) : gridErrL 40 12 ll = 0 ∧ 0 ≤ bend ∧ bend ≤ 1000 := by
  unfold taskErrL at h
  split at h
  · rename_i h1
    split at h
    · rename_i h2; exact ⟨h1, h2⟩
    · cases h
  · rename_i h1; exact absurd h h1

theorem openPath_c {ll : List (List Int)} {vs : List Value} {v vp : Value} {bend : Int} {p : List Int} (hL : Lists H ll vs v) (hp : Ints H p vp) (hb : ll.length ≤ 1000000000) (hr : ∀ i, i < ll.length → (ll.getD i []).length ≤ 1000000000) :
    ACall Go.Proofs.Tryd.prog 120 [.agg ⟨[v, .int .i64 bend]⟩, vp] H fun v1 H1 => v1 = .tuple #[.agg ⟨[v, .int .i64 bend]⟩, .int .i64 (openErrL ll bend p)] ∧ Ext H H1 := by
  (refine a120 ?_; simp only [n120, List.replicate, List.length_cons, List.length_nil, List.cons_append, List.nil_append])
  ((repeat (first | refine q1 ?_ | refine q2 ?_ | refine q3 ?_ | refine q4 ?_ | refine q5 ?_ | refine q6 ?_ | refine q7 ?_ | refine q8 ?_ | refine q9 ?_ | refine qa ?_ | refine qb ?_ | refine qc ?_ | refine qd ?_ | refine qe (by decide) ?_ | refine qf ?_ | refine qg ?_ | ((first | apply aops_all | apply adraw_all); (simp (disch := first | exact List.all_nil | omega | (simp only [go_sem]; done) | (simp only [ln, List.length_map]; omega) | (repeat' first | assumption | exact Ext.refl _ | refine Ext.app ?_ _)) only [go_sem, hL.box2]; rfl)))); (try ((first | apply aops_until | apply adraw_until); (simp (disch := first | exact List.all_nil | omega | (simp only [go_sem]; done) | (simp only [ln, List.length_map]; omega) | (repeat' first | assumption | exact Ext.refl _ | refine Ext.app ?_ _)) only [go_sem, hL.box2]; rfl))))
  (simp only [List.length_append, List.length_cons, List.length_nil, Nat.zero_add, Nat.add_assoc, Nat.reduceAdd])
  obtain ⟨G, hG⟩ : ∃ G, G = H ++ [AObj.cells true 0 [v, .int .i64 bend]] ++ [AObj.cells true 0 [.slice none 0 0, .int .i64 0]] := ⟨_, rfl⟩
  have g0 : G[H.length]? = some (.cells true 0 [v, .int .i64 bend]) := by rw [hG]; exact at_app at_new
  have g1 : G[H.length + 1]? = some (.cells true 0 [.slice none 0 0, .int .i64 0]) := by rw [hG]; simp
  have xG : Ext H G := by rw [hG]; exact ((Ext.refl H).app _).app _
  rw [← hG]
  clear hG
  ((repeat (first | refine q1 ?_ | refine q2 ?_ | refine q3 ?_ | refine q4 ?_ | refine q5 ?_ | refine q6 ?_ | refine q7 ?_ | refine q8 ?_ | refine q9 ?_ | refine qa ?_ | refine qb ?_ | refine qc ?_ | refine qd ?_ | refine qe (by decide) ?_ | refine qf ?_ | refine qg ?_ | ((first | apply aops_all | apply adraw_all); (simp (disch := first | exact List.all_nil | omega | (simp only [go_sem]; done) | (simp only [ln, List.length_map]; omega) | (repeat' first | assumption | exact Ext.refl _ | refine Ext.app ?_ _)) only [go_sem, loadN_at g0]; rfl)))); (try ((first | apply aops_until | apply adraw_until); (simp (disch := first | exact List.all_nil | omega | (simp only [go_sem]; done) | (simp only [ln, List.length_map]; omega) | (repeat' first | assumption | exact Ext.refl _ | refine Ext.app ?_ _)) only [go_sem, loadN_at g0]; rfl))))
  refine aops_call ((open_c (hL.ext xG) hb hr).mono fun v1 H1 ⟨e1, hx1⟩ => ?_)
  subst e1
  have hst := store_at2v (at_new (H := H1) (o := true) (e := 0) (vs := [.slice none 0 0, .int .i64 0])) hL.atom (isAtom_int .i64 bend)
  ((repeat (first | refine q1 ?_ | refine q2 ?_ | refine q3 ?_ | refine q4 ?_ | refine q5 ?_ | refine q6 ?_ | refine q7 ?_ | refine q8 ?_ | refine q9 ?_ | refine qa ?_ | refine qb ?_ | refine qc ?_ | refine qd ?_ | refine qe (by decide) ?_ | refine qf ?_ | refine qg ?_ | ((first | apply aops_all | apply adraw_all); (simp (disch := first | exact List.all_nil | omega | (simp only [go_sem]; done) | (simp only [ln, List.length_map]; omega) | (repeat' first | assumption | exact Ext.refl _ | refine Ext.app ?_ _)) only [go_sem, hst]; rfl)))); (try ((first | apply aops_until | apply adraw_until); (simp (disch := first | exact List.all_nil | omega | (simp only [go_sem]; done) | (simp only [ln, List.length_map]; omega) | (repeat' first | assumption | exact Ext.refl _ | refine Ext.app ?_ _)) only [go_sem, hst]; rfl))))
  obtain ⟨k, hk⟩ : ∃ k, k = H1.length := ⟨_, rfl⟩
  obtain ⟨G2, hG2⟩ : ∃ G2, G2 = (H1 ++ [AObj.cells true 0 [.slice none 0 0, .int .i64 0]]).set H1.length (.cells true 0 [v, .int .i64 bend]) := ⟨_, rfl⟩
  have gk : G2[k]? = some (.cells true 0 [v, .int .i64 bend]) := by rw [hG2, hk]; exact get_set_self at_new
  have x2 : Ext H1 G2 := by rw [hG2]; exact ((Ext.refl H1).app _).set (Nat.le_refl _) _
  have g12 := (hx1.trans x2).cell g1
  have xG2 := (xG.trans hx1).trans x2
  rw [← hG2, ← hk]
  clear hG2
  refine cond_p rfl (fun hne => ?_) (fun heq => ?_)
  · have e2 : openErrL ll bend p = taskErrL ll bend := by unfold openErrL; rw [if_neg hne]
    ((repeat (first | refine q1 ?_ | refine q2 ?_ | refine q3 ?_ | refine q4 ?_ | refine q5 ?_ | refine q6 ?_ | refine q7 ?_ | refine q8 ?_ | refine q9 ?_ | refine qa ?_ | refine qb ?_ | refine qc ?_ | refine qd ?_ | refine qe (by decide) ?_ | refine qf ?_ | refine qg ?_ | ((first | apply aops_all | apply adraw_all); (simp (disch := first | exact List.all_nil | omega | (simp only [go_sem]; done) | (simp only [ln, List.length_map]; omega) | (repeat' first | assumption | exact Ext.refl _ | refine Ext.app ?_ _)) only [go_sem, loadN_at gk, store_at2v g12 hL.atom (isAtom_int .i64 bend)]; rfl)))); (try ((first | apply aops_until | apply adraw_until); (simp (disch := first | exact List.all_nil | omega | (simp only [go_sem]; done) | (simp only [ln, List.length_map]; omega) | (repeat' first | assumption | exact Ext.refl _ | refine Ext.app ?_ _)) only [go_sem, loadN_at gk, store_at2v g12 hL.atom (isAtom_int .i64 bend)]; rfl))))
    refine fin_l2 (u := .agg ⟨[v, .int .i64 bend]⟩) ?_ ⟨by rw [e2]; rfl, ?_⟩
    · exact loadN_at (k := 0) (get_set_self g12) (by simp)
    · exact xG2.set (by omega) _
  · have hok : taskErrL ll bend = 0 := Decidable.not_not.1 heq
    obtain ⟨hg, _⟩ := taskErr_ok hok
    obtain ⟨w1, w2, w3, w4, w5, w6⟩ := gridErr_ok hg
    have e2 : openErrL ll bend p = pathErrL ll p := by unfold openErrL; rw [if_pos hok]
    ((repeat (first | refine q1 ?_ | refine q2 ?_ | refine q3 ?_ | refine q4 ?_ | refine q5 ?_ | refine q6 ?_ | refine q7 ?_ | refine q8 ?_ | refine q9 ?_ | refine qa ?_ | refine qb ?_ | refine qc ?_ | refine qd ?_ | refine qe (by decide) ?_ | refine qf ?_ | refine qg ?_ | ((first | apply aops_all | apply adraw_all); (simp (disch := first | exact List.all_nil | omega | (simp only [go_sem]; done) | (simp only [ln, List.length_map]; omega) | (repeat' first | assumption | exact Ext.refl _ | refine Ext.app ?_ _)) only [go_sem, loadN_at gk]; rfl)))); (try ((first | apply aops_until | apply adraw_until); (simp (disch := first | exact List.all_nil | omega | (simp only [go_sem]; done) | (simp only [ln, List.length_map]; omega) | (repeat' first | assumption | exact Ext.refl _ | refine Ext.app ?_ _)) only [go_sem, loadN_at gk]; rfl))))
    refine adraw_call (N := []) (firstD (pathErr_c (hL.ext xG2) (hp.ext xG2) w1 (by omega) (by omega))) ?_
    rw [List.append_nil]
    ((repeat (first | refine q1 ?_ | refine q2 ?_ | refine q3 ?_ | refine q4 ?_ | refine q5 ?_ | refine q6 ?_ | refine q7 ?_ | refine q8 ?_ | refine q9 ?_ | refine qa ?_ | refine qb ?_ | refine qc ?_ | refine qd ?_ | refine qe (by decide) ?_ | refine qf ?_ | refine qg ?_ | ((first | apply aops_all | apply adraw_all); (simp (disch := first | exact List.all_nil | omega | (simp only [go_sem]; done) | (simp only [ln, List.length_map]; omega) | (repeat' first | assumption | exact Ext.refl _ | refine Ext.app ?_ _)) only [go_sem, store_at2v g12 hL.atom (isAtom_int .i64 bend)]; rfl)))); (try ((first | apply aops_until | apply adraw_until); (simp (disch := first | exact List.all_nil | omega | (simp only [go_sem]; done) | (simp only [ln, List.length_map]; omega) | (repeat' first | assumption | exact Ext.refl _ | refine Ext.app ?_ _)) only [go_sem, store_at2v g12 hL.atom (isAtom_int .i64 bend)]; rfl))))
    refine fin_l2 (u := .agg ⟨[v, .int .i64 bend]⟩) ?_ ⟨by rw [e2]; rfl, ?_⟩
    · exact loadN_at (k := 0) (get_set_self g12) (by simp)
    · exact xG2.set (by omega) _
end
end Go.Lq

namespace Go.Lq
open Go
open Go.Proofs

def pixOf (ll : List (List Int)) (p : List Int) (i : Nat) : Int := (ll.getD i []).getD (p.getD i 0).toNat 0
def bendAt (bend : Int) (p : List Int) (i : Nat) : Int := if i = 0 then 0 else bendI bend (p.getD (i - 1) 0) (p.getD i 0)
def costTo (ll : List (List Int)) (bend : Int) (p : List Int) : Nat → Int
  | 0 => 0
  | n + 1 => costTo ll bend p n + pixOf ll p n + bendAt bend p n
theorem bendI_bound {bend a b : Int} (h : 0 ≤ bend ∧ bend ≤ 1000) : 0 ≤ bendI bend a b ∧ bendI bend a b ≤ 1000 := by unfold bendI; split <;> omega
theorem bendAt_bound {bend : Int} {p : List Int} {i : Nat} (h : 0 ≤ bend ∧ bend ≤ 1000) : 0 ≤ bendAt bend p i ∧ bendAt bend p i ≤ 1000 := by unfold bendAt; split; omega; exact bendI_bound h
theorem val_bound {ll : List (List Int)} (h : ∀ i, i < ll.length → ∀ n ∈ ll.getD i [], 0 ≤ n ∧ n ≤ 255) (i c : Nat) : 0 ≤ (ll.getD i []).getD c 0 ∧ (ll.getD i []).getD c 0 ≤ 255 := by
  by_cases h1 : i < ll.length
  · by_cases h2 : c < (ll.getD i []).length
    · exact h _ h1 _ (getD_mem h2)
    · rw [getD_ge (by omega)]; omega
  · rw [getD_ge (l := ll) (by omega)]; simp
theorem costTo_bound {ll : List (List Int)} {bend : Int} {p : List Int} (h : ∀ i, i < ll.length → ∀ n ∈ ll.getD i [], 0 ≤ n ∧ n ≤ 255) (hb : 0 ≤ bend ∧ bend ≤ 1000) : ∀ n : Nat, 0 ≤ costTo ll bend p n ∧ costTo ll bend p n ≤ 1255 * n
  | 0 => by simp [costTo]
  | n + 1 => by
    have h1 := costTo_bound (p := p) h hb n
    have h2 := val_bound h n (p.getD n 0).toNat
    have h3 := bendAt_bound (p := p) (i := n) hb
    simp only [costTo, pixOf]
    omega

/-! ### The second of a pair written -/
section
variable {H : AHeap}
theorem cost_c {ll : List (List Int)} {vs : List Value} {v vp : Value} {bend : Int} {p : List Int} (hL : Lists H ll vs v) (hp : Ints H p vp) (hb : ll.length ≤ 1000000000) (hr : ∀ i, i < ll.length → (ll.getD i []).length ≤ 1000000000) :
    ACall Go.Proofs.Tryd.prog 66 [.agg ⟨[v, .int .i64 bend]⟩, vp] H fun v1 H1 => v1 = .tuple #[.int .i64 (if openErrL ll bend p = 0 then costTo ll bend p p.length else 0), .int .i64 (openErrL ll bend p)] ∧ H1 = H := by
  refine ACall.drop (closed_two _ _) ?_
  (refine a66 ?_; simp only [n66, List.replicate, List.length_cons, List.length_nil, List.cons_append, List.nil_append])
  ((repeat (first | refine q1 ?_ | refine q2 ?_ | refine q3 ?_ | refine q4 ?_ | refine q5 ?_ | refine q6 ?_ | refine q7 ?_ | refine q8 ?_ | refine q9 ?_ | refine qa ?_ | refine qb ?_ | refine qc ?_ | refine qd ?_ | refine qe (by decide) ?_ | refine qf ?_ | refine qg ?_ | ((first | apply aops_all | apply adraw_all); (simp (disch := first | exact List.all_nil | omega | (simp only [go_sem]; done) | (simp only [ln, List.length_map]; omega) | (repeat' first | assumption | exact Ext.refl _ | refine Ext.app ?_ _)) only [go_sem, hL.box2]; rfl)))); (try ((first | apply aops_until | apply adraw_until); (simp (disch := first | exact List.all_nil | omega | (simp only [go_sem]; done) | (simp only [ln, List.length_map]; omega) | (repeat' first | assumption | exact Ext.refl _ | refine Ext.app ?_ _)) only [go_sem, hL.box2]; rfl))))
  have g0 : (H ++ [AObj.cells true 0 [v, .int .i64 bend]])[H.length]? = some (.cells true 0 [v, .int .i64 bend]) := at_new
  have xG : Ext H (H ++ [AObj.cells true 0 [v, .int .i64 bend]]) := (Ext.refl H).app _
  refine aops_call ((openPath_c (hL.ext xG) (hp.ext xG) hb hr).mono fun v1 H1 ⟨e1, hx1⟩ => ?_)
  subst e1
  have hst := store_at2v (at_new (H := H1) (o := true) (e := 0) (vs := [.slice none 0 0, .int .i64 0])) hL.atom (isAtom_int .i64 bend)
  ((repeat (first | refine q1 ?_ | refine q2 ?_ | refine q3 ?_ | refine q4 ?_ | refine q5 ?_ | refine q6 ?_ | refine q7 ?_ | refine q8 ?_ | refine q9 ?_ | refine qa ?_ | refine qb ?_ | refine qc ?_ | refine qd ?_ | refine qe (by decide) ?_ | refine qf ?_ | refine qg ?_ | ((first | apply aops_all | apply adraw_all); (simp (disch := first | exact List.all_nil | omega | (simp only [go_sem]; done) | (simp only [ln, List.length_map]; omega) | (repeat' first | assumption | exact Ext.refl _ | refine Ext.app ?_ _)) only [go_sem, hst]; rfl)))); (try ((first | apply aops_until | apply adraw_until); (simp (disch := first | exact List.all_nil | omega | (simp only [go_sem]; done) | (simp only [ln, List.length_map]; omega) | (repeat' first | assumption | exact Ext.refl _ | refine Ext.app ?_ _)) only [go_sem, hst]; rfl))))
  obtain ⟨k, hk⟩ : ∃ k, k = H1.length := ⟨_, rfl⟩
  obtain ⟨G2, hG2⟩ : ∃ G2, G2 = (H1 ++ [AObj.cells true 0 [.slice none 0 0, .int .i64 0]]).set H1.length (.cells true 0 [v, .int .i64 bend]) := ⟨_, rfl⟩
  have gk : G2[k]? = some (.cells true 0 [v, .int .i64 bend]) := by rw [hG2, hk]; exact get_set_self at_new
  have x2 : Ext H1 G2 := by rw [hG2]; exact ((Ext.refl H1).app _).set (Nat.le_refl _) _
  have xG2 := (xG.trans hx1).trans x2
  rw [← hG2, ← hk]
  clear hG2
  refine cond_p rfl (fun hne => ?_) (fun heq => ?_)
  · rw [if_neg hne]
    ((repeat (first | refine q1 ?_ | refine q2 ?_ | refine q3 ?_ | refine q4 ?_ | refine q5 ?_ | refine q6 ?_ | refine q7 ?_ | refine q8 ?_ | refine q9 ?_ | refine qa ?_ | refine qb ?_ | refine qc ?_ | refine qd ?_ | refine qe (by decide) ?_ | refine qf ?_ | refine qg ?_ | ((first | apply aops_all | apply adraw_all); (simp (disch := first | exact List.all_nil | omega | (simp only [go_sem]; done) | (simp only [ln, List.length_map]; omega) | (repeat' first | assumption | exact Ext.refl _ | refine Ext.app ?_ _)) only [go_sem]; rfl)))); (try ((first | apply aops_until | apply adraw_until); (simp (disch := first | exact List.all_nil | omega | (simp only [go_sem]; done) | (simp only [ln, List.length_map]; omega) | (repeat' first | assumption | exact Ext.refl _ | refine Ext.app ?_ _)) only [go_sem]; rfl))))
    exact fin_2 ⟨rfl, xG2⟩
  have hok : openErrL ll bend p = 0 := Decidable.not_not.1 heq
  have hok1 : taskErrL ll bend = 0 := by
    unfold openErrL at hok
    split at hok
    · assumption
    · exact hok
  have hok2 : pathErrL ll p = 0 := by unfold openErrL at hok; rwa [if_pos hok1] at hok
  obtain ⟨hg, hbe⟩ := taskErr_ok hok1
  obtain ⟨w1, w2, w3, w4, w5, w6⟩ := gridErr_ok hg
  obtain ⟨pl, pv⟩ := pathErr_ok hok2
  rw [if_pos hok]
  have hp2 := hp.ext xG2
  have hL2 := hL.ext xG2
  ((repeat (first | refine q1 ?_ | refine q2 ?_ | refine q3 ?_ | refine q4 ?_ | refine q5 ?_ | refine q6 ?_ | refine q7 ?_ | refine q8 ?_ | refine q9 ?_ | refine qa ?_ | refine qb ?_ | refine qc ?_ | refine qd ?_ | refine qe (by decide) ?_ | refine qf ?_ | refine qg ?_ | ((first | apply aops_all | apply adraw_all); (simp (disch := first | exact List.all_nil | omega | (simp only [go_sem]; done) | (simp only [ln, List.length_map]; omega) | (repeat' first | assumption | exact Ext.refl _ | refine Ext.app ?_ _)) only [go_sem, hp2.len, hp2.idx, hp2.load]; rfl)))); (try ((first | apply aops_until | apply adraw_until); (simp (disch := first | exact List.all_nil | omega | (simp only [go_sem]; done) | (simp only [ln, List.length_map]; omega) | (repeat' first | assumption | exact Ext.refl _ | refine Ext.app ?_ _)) only [go_sem, hp2.len, hp2.idx, hp2.load]; rfl))))
  refine awp_loop_n [false, true, false, false, false, false, true, false, true, false, false, false, false, false, false, false, false, false, false, false, true, true, true, false, false, false, false, false, false, false, false, false, false, false, false, false, false, false, false, false, false, false, false, false, false, false, false, false, false, false, false, false] p.length (fun i e H' => H' = G2 ∧ e = [junk, vp, junk, junk, junk, junk, .pointer (some ⟨k, 0, none⟩), junk, .int .i64 (costTo ll bend p i), junk, junk, junk, junk, junk, junk, junk, junk, junk, junk, junk, vp, .int .i64 p.length, .int .i64 i, junk, junk, junk, junk, junk, junk, junk, junk, junk, junk, junk, junk, junk, junk, junk, junk, junk, junk, junk, junk, junk, junk, junk, junk, junk, junk, junk, junk, junk]) ?_ ?_
  · exact ⟨rfl, by simp [forget, costTo]⟩
  rintro i e H3 hi ⟨rfl, rfl⟩
  ((repeat (first | refine q1 ?_ | refine q2 ?_ | refine q3 ?_ | refine q4 ?_ | refine q5 ?_ | refine q6 ?_ | refine q7 ?_ | refine q8 ?_ | refine q9 ?_ | refine qa ?_ | refine qb ?_ | refine qc ?_ | refine qd ?_ | refine qe (by decide) ?_ | refine qf ?_ | refine qg ?_ | ((first | apply aops_all | apply adraw_all); (simp (disch := first | exact List.all_nil | omega | (simp only [go_sem]; done) | (simp only [ln, List.length_map]; omega) | (repeat' first | assumption | exact Ext.refl _ | refine Ext.app ?_ _)) only [go_sem]; rfl)))); (try ((first | apply aops_until | apply adraw_until); (simp (disch := first | exact List.all_nil | omega | (simp only [go_sem]; done) | (simp only [ln, List.length_map]; omega) | (repeat' first | assumption | exact Ext.refl _ | refine Ext.app ?_ _)) only [go_sem]; rfl))))
  refine cond_p rfl (fun hlt => ?_) (fun hge => ?_)
  rotate_left 1
  · obtain rfl : i = p.length := by omega
    ((repeat (first | refine q1 ?_ | refine q2 ?_ | refine q3 ?_ | refine q4 ?_ | refine q5 ?_ | refine q6 ?_ | refine q7 ?_ | refine q8 ?_ | refine q9 ?_ | refine qa ?_ | refine qb ?_ | refine qc ?_ | refine qd ?_ | refine qe (by decide) ?_ | refine qf ?_ | refine qg ?_ | ((first | apply aops_all | apply adraw_all); (simp (disch := first | exact List.all_nil | omega | (simp only [go_sem]; done) | (simp only [ln, List.length_map]; omega) | (repeat' first | assumption | exact Ext.refl _ | refine Ext.app ?_ _)) only [go_sem]; rfl)))); (try ((first | apply aops_until | apply adraw_until); (simp (disch := first | exact List.all_nil | omega | (simp only [go_sem]; done) | (simp only [ln, List.length_map]; omega) | (repeat' first | assumption | exact Ext.refl _ | refine Ext.app ?_ _)) only [go_sem]; rfl))))
    exact fin_2 ⟨by rw [hok]; rfl, xG2⟩
  have hi' : i < p.length := by omega
  obtain ⟨pb, pd⟩ := pv i hi'
  have hrow := hL2.row (k := i) (by omega)
  have hwi := w5 i (by omega)
  have cb := costTo_bound (p := p) w6 hbe i
  have vb := val_bound w6 i (p.getD i 0).toNat
  ((repeat (first | refine q1 ?_ | refine q2 ?_ | refine q3 ?_ | refine q4 ?_ | refine q5 ?_ | refine q6 ?_ | refine q7 ?_ | refine q8 ?_ | refine q9 ?_ | refine qa ?_ | refine qb ?_ | refine qc ?_ | refine qd ?_ | refine qe (by decide) ?_ | refine qf ?_ | refine qg ?_ | ((first | apply aops_all | apply adraw_all); (simp (disch := first | exact List.all_nil | omega | (simp only [go_sem]; done) | (simp only [ln, List.length_map]; omega) | (repeat' first | assumption | exact Ext.refl _ | refine Ext.app ?_ _)) only [go_sem, hp2.len, hp2.idx, hp2.load, hL2.len, hL2.idx, hL2.load, hrow.len, hrow.idx, hrow.load, load_at gk]; rfl)))); (try ((first | apply aops_until | apply adraw_until); (simp (disch := first | exact List.all_nil | omega | (simp only [go_sem]; done) | (simp only [ln, List.length_map]; omega) | (repeat' first | assumption | exact Ext.refl _ | refine Ext.app ?_ _)) only [go_sem, hp2.len, hp2.idx, hp2.load, hL2.len, hL2.idx, hL2.load, hrow.len, hrow.idx, hrow.load, load_at gk]; rfl))))
  by_cases hi0 : i = 0
  · refine cond_f (by simp (disch := first | exact List.all_nil | omega | (simp only [go_sem]; done) | (simp only [ln, List.length_map]; omega) | (repeat' first | assumption | exact Ext.refl _ | refine Ext.app ?_ _)) only [go_sem, dec_f (show ¬ 0 < (i : Int) by omega)]) ?_
    ((repeat (first | refine q1 ?_ | refine q2 ?_ | refine q3 ?_ | refine q4 ?_ | refine q5 ?_ | refine q6 ?_ | refine q7 ?_ | refine q8 ?_ | refine q9 ?_ | refine qa ?_ | refine qb ?_ | refine qc ?_ | refine qd ?_ | refine qe (by decide) ?_ | refine qf ?_ | refine qg ?_ | ((first | apply aops_all | apply adraw_all); (simp (disch := first | exact List.all_nil | omega | (simp only [go_sem]; done) | (simp only [ln, List.length_map]; omega) | (repeat' first | assumption | exact Ext.refl _ | refine Ext.app ?_ _)) only [go_sem]; rfl)))); (try ((first | apply aops_until | apply adraw_until); (simp (disch := first | exact List.all_nil | omega | (simp only [go_sem]; done) | (simp only [ln, List.length_map]; omega) | (repeat' first | assumption | exact Ext.refl _ | refine Ext.app ?_ _)) only [go_sem]; rfl))))
    refine ⟨by omega, rfl, ?_⟩
    simp [forget, costTo, pixOf, bendAt, hi0]
  · refine cond_t (by simp (disch := first | exact List.all_nil | omega | (simp only [go_sem]; done) | (simp only [ln, List.length_map]; omega) | (repeat' first | assumption | exact Ext.refl _ | refine Ext.app ?_ _)) only [go_sem, dec_t (show 0 < (i : Int) by omega)]) ?_
    have c1 : ((i : Int) - 1) = ((i - 1 : Nat) : Int) := by omega
    have bb := bendI_bound (a := p.getD (i - 1) 0) (b := p.getD i 0) hbe
    ((repeat (first | refine q1 ?_ | refine q2 ?_ | refine q3 ?_ | refine q4 ?_ | refine q5 ?_ | refine q6 ?_ | refine q7 ?_ | refine q8 ?_ | refine q9 ?_ | refine qa ?_ | refine qb ?_ | refine qc ?_ | refine qd ?_ | refine qe (by decide) ?_ | refine qf ?_ | refine qg ?_ | ((first | apply aops_all | apply adraw_all); (simp (disch := first | exact List.all_nil | omega | (simp only [go_sem]; done) | (simp only [ln, List.length_map]; omega) | (repeat' first | assumption | exact Ext.refl _ | refine Ext.app ?_ _)) only [go_sem, hp2.len, hp2.idx, hp2.load, c1, loadN_at gk]; rfl)))); (try ((first | apply aops_until | apply adraw_until); (simp (disch := first | exact List.all_nil | omega | (simp only [go_sem]; done) | (simp only [ln, List.length_map]; omega) | (repeat' first | assumption | exact Ext.refl _ | refine Ext.app ?_ _)) only [go_sem, hp2.len, hp2.idx, hp2.load, c1, loadN_at gk]; rfl))))
    refine adraw_call (N := []) (firstD (bend_c hL2)) ?_
    rw [List.append_nil]
    ((repeat (first | refine q1 ?_ | refine q2 ?_ | refine q3 ?_ | refine q4 ?_ | refine q5 ?_ | refine q6 ?_ | refine q7 ?_ | refine q8 ?_ | refine q9 ?_ | refine qa ?_ | refine qb ?_ | refine qc ?_ | refine qd ?_ | refine qe (by decide) ?_ | refine qf ?_ | refine qg ?_ | ((first | apply aops_all | apply adraw_all); (simp (disch := first | exact List.all_nil | omega | (simp only [go_sem]; done) | (simp only [ln, List.length_map]; omega) | (repeat' first | assumption | exact Ext.refl _ | refine Ext.app ?_ _)) only [go_sem]; rfl)))); (try ((first | apply aops_until | apply adraw_until); (simp (disch := first | exact List.all_nil | omega | (simp only [go_sem]; done) | (simp only [ln, List.length_map]; omega) | (repeat' first | assumption | exact Ext.refl _ | refine Ext.app ?_ _)) only [go_sem]; rfl))))
    refine ⟨by omega, rfl, ?_⟩
    simp [forget, costTo, pixOf, bendAt, hi0]

theorem refCost_c {ll : List (List Int)} {vs : List Value} {v vp : Value} {bend : Int} {p : List Int} (hL : Lists H ll vs v) (hp : Ints H p vp) (h1 : taskErrL ll bend = 0) (h2 : pathErrL ll p = 0) :
    ACall Go.Proofs.Tryd.prog 61 [.agg ⟨[v, .int .i64 bend]⟩, vp] H fun v1 H1 => v1 = .int .i64 (costTo ll bend p p.length) ∧ H1 = H := by
  refine ACall.drop (.int _ _) ?_
  obtain ⟨hg, hbe⟩ := taskErr_ok h1
  obtain ⟨w1, w2, w3, w4, w5, w6⟩ := gridErr_ok hg
  obtain ⟨pl, pv⟩ := pathErr_ok h2
  (refine a61 ?_; simp only [n61, List.replicate, List.length_cons, List.length_nil, List.cons_append, List.nil_append])
  ((repeat (first | refine q1 ?_ | refine q2 ?_ | refine q3 ?_ | refine q4 ?_ | refine q5 ?_ | refine q6 ?_ | refine q7 ?_ | refine q8 ?_ | refine q9 ?_ | refine qa ?_ | refine qb ?_ | refine qc ?_ | refine qd ?_ | refine qe (by decide) ?_ | refine qf ?_ | refine qg ?_ | ((first | apply aops_all | apply adraw_all); (simp (disch := first | exact List.all_nil | omega | (simp only [go_sem]; done) | (simp only [ln, List.length_map]; omega) | (repeat' first | assumption | exact Ext.refl _ | refine Ext.app ?_ _)) only [go_sem, hL.box2]; rfl)))); (try ((first | apply aops_until | apply adraw_until); (simp (disch := first | exact List.all_nil | omega | (simp only [go_sem]; done) | (simp only [ln, List.length_map]; omega) | (repeat' first | assumption | exact Ext.refl _ | refine Ext.app ?_ _)) only [go_sem, hL.box2]; rfl))))
  have g0 : (H ++ [AObj.cells true 0 [v, .int .i64 bend]])[H.length]? = some (.cells true 0 [v, .int .i64 bend]) := at_new
  have xG : Ext H (H ++ [AObj.cells true 0 [v, .int .i64 bend]]) := (Ext.refl H).app _
  have hL2 := hL.ext xG
  have hp2 := hp.ext xG
  generalize (H ++ [AObj.cells true 0 [v, .int .i64 bend]] : AHeap) = G at g0 xG hL2 hp2
  refine awp_loop_n [false, true, true, false, false, true, true, false, false, false, false, false, false, false, false, false, false, false, false, false, false, false, false, false, false, false, false, false, false, false, false, false, false, false, false, false, false, false, false, false, false, false] p.length (fun i e H' => H' = G ∧ e = [junk, vp, .pointer (some ⟨H.length, 0, none⟩), junk, junk, .int .i64 (costTo ll bend p i), .int .i64 i, junk, junk, junk, junk, junk, junk, junk, junk, junk, junk, junk, junk, junk, junk, junk, junk, junk, junk, junk, junk, junk, junk, junk, junk, junk, junk, junk, junk, junk, junk, junk, junk, junk, junk, junk]) ?_ ?_
  · exact ⟨rfl, by simp [forget, costTo]⟩
  rintro i e H3 hi ⟨rfl, rfl⟩
  ((repeat (first | refine q1 ?_ | refine q2 ?_ | refine q3 ?_ | refine q4 ?_ | refine q5 ?_ | refine q6 ?_ | refine q7 ?_ | refine q8 ?_ | refine q9 ?_ | refine qa ?_ | refine qb ?_ | refine qc ?_ | refine qd ?_ | refine qe (by decide) ?_ | refine qf ?_ | refine qg ?_ | ((first | apply aops_all | apply adraw_all); (simp (disch := first | exact List.all_nil | omega | (simp only [go_sem]; done) | (simp only [ln, List.length_map]; omega) | (repeat' first | assumption | exact Ext.refl _ | refine Ext.app ?_ _)) only [go_sem, hp2.len, hp2.idx, hp2.load]; rfl)))); (try ((first | apply aops_until | apply adraw_until); (simp (disch := first | exact List.all_nil | omega | (simp only [go_sem]; done) | (simp only [ln, List.length_map]; omega) | (repeat' first | assumption | exact Ext.refl _ | refine Ext.app ?_ _)) only [go_sem, hp2.len, hp2.idx, hp2.load]; rfl))))
  refine cond_p rfl (fun hlt => ?_) (fun hge => ?_)
  rotate_left 1
  · obtain rfl : i = p.length := by omega
    ((repeat (first | refine q1 ?_ | refine q2 ?_ | refine q3 ?_ | refine q4 ?_ | refine q5 ?_ | refine q6 ?_ | refine q7 ?_ | refine q8 ?_ | refine q9 ?_ | refine qa ?_ | refine qb ?_ | refine qc ?_ | refine qd ?_ | refine qe (by decide) ?_ | refine qf ?_ | refine qg ?_ | ((first | apply aops_all | apply adraw_all); (simp (disch := first | exact List.all_nil | omega | (simp only [go_sem]; done) | (simp only [ln, List.length_map]; omega) | (repeat' first | assumption | exact Ext.refl _ | refine Ext.app ?_ _)) only [go_sem]; rfl)))); (try ((first | apply aops_until | apply adraw_until); (simp (disch := first | exact List.all_nil | omega | (simp only [go_sem]; done) | (simp only [ln, List.length_map]; omega) | (repeat' first | assumption | exact Ext.refl _ | refine Ext.app ?_ _)) only [go_sem]; rfl))))
    exact fin_1 ⟨rfl, xG⟩
  have hi' : i < p.length := by omega
  obtain ⟨pb, pd⟩ := pv i hi'
  have hrow := hL2.row (k := i) (by omega)
  have hwi := w5 i (by omega)
  have cb := costTo_bound (p := p) w6 hbe i
  have vb := val_bound w6 i (p.getD i 0).toNat
  ((repeat (first | refine q1 ?_ | refine q2 ?_ | refine q3 ?_ | refine q4 ?_ | refine q5 ?_ | refine q6 ?_ | refine q7 ?_ | refine q8 ?_ | refine q9 ?_ | refine qa ?_ | refine qb ?_ | refine qc ?_ | refine qd ?_ | refine qe (by decide) ?_ | refine qf ?_ | refine qg ?_ | ((first | apply aops_all | apply adraw_all); (simp (disch := first | exact List.all_nil | omega | (simp only [go_sem]; done) | (simp only [ln, List.length_map]; omega) | (repeat' first | assumption | exact Ext.refl _ | refine Ext.app ?_ _)) only [go_sem, hp2.len, hp2.idx, hp2.load, hL2.len, hL2.idx, hL2.load, hrow.len, hrow.idx, hrow.load, load_at g0]; rfl)))); (try ((first | apply aops_until | apply adraw_until); (simp (disch := first | exact List.all_nil | omega | (simp only [go_sem]; done) | (simp only [ln, List.length_map]; omega) | (repeat' first | assumption | exact Ext.refl _ | refine Ext.app ?_ _)) only [go_sem, hp2.len, hp2.idx, hp2.load, hL2.len, hL2.idx, hL2.load, hrow.len, hrow.idx, hrow.load, load_at g0]; rfl))))
  by_cases hi0 : i = 0
  · refine cond_f (by simp (disch := first | exact List.all_nil | omega | (simp only [go_sem]; done) | (simp only [ln, List.length_map]; omega) | (repeat' first | assumption | exact Ext.refl _ | refine Ext.app ?_ _)) only [go_sem, dec_f (show ¬ 0 < (i : Int) by omega)]) ?_
    ((repeat (first | refine q1 ?_ | refine q2 ?_ | refine q3 ?_ | refine q4 ?_ | refine q5 ?_ | refine q6 ?_ | refine q7 ?_ | refine q8 ?_ | refine q9 ?_ | refine qa ?_ | refine qb ?_ | refine qc ?_ | refine qd ?_ | refine qe (by decide) ?_ | refine qf ?_ | refine qg ?_ | ((first | apply aops_all | apply adraw_all); (simp (disch := first | exact List.all_nil | omega | (simp only [go_sem]; done) | (simp only [ln, List.length_map]; omega) | (repeat' first | assumption | exact Ext.refl _ | refine Ext.app ?_ _)) only [go_sem]; rfl)))); (try ((first | apply aops_until | apply adraw_until); (simp (disch := first | exact List.all_nil | omega | (simp only [go_sem]; done) | (simp only [ln, List.length_map]; omega) | (repeat' first | assumption | exact Ext.refl _ | refine Ext.app ?_ _)) only [go_sem]; rfl))))
    refine ⟨by omega, rfl, ?_⟩
    simp [forget, costTo, pixOf, bendAt, hi0]
  · refine cond_t (by simp (disch := first | exact List.all_nil | omega | (simp only [go_sem]; done) | (simp only [ln, List.length_map]; omega) | (repeat' first | assumption | exact Ext.refl _ | refine Ext.app ?_ _)) only [go_sem, dec_t (show 0 < (i : Int) by omega)]) ?_
    have c1 : ((i : Int) - 1) = ((i - 1 : Nat) : Int) := by omega
    have bb := bendI_bound (a := p.getD (i - 1) 0) (b := p.getD i 0) hbe
    ((repeat (first | refine q1 ?_ | refine q2 ?_ | refine q3 ?_ | refine q4 ?_ | refine q5 ?_ | refine q6 ?_ | refine q7 ?_ | refine q8 ?_ | refine q9 ?_ | refine qa ?_ | refine qb ?_ | refine qc ?_ | refine qd ?_ | refine qe (by decide) ?_ | refine qf ?_ | refine qg ?_ | ((first | apply aops_all | apply adraw_all); (simp (disch := first | exact List.all_nil | omega | (simp only [go_sem]; done) | (simp only [ln, List.length_map]; omega) | (repeat' first | assumption | exact Ext.refl _ | refine Ext.app ?_ _)) only [go_sem, hp2.len, hp2.idx, hp2.load, c1, loadN_at g0]; rfl)))); (try ((first | apply aops_until | apply adraw_until); (simp (disch := first | exact List.all_nil | omega | (simp only [go_sem]; done) | (simp only [ln, List.length_map]; omega) | (repeat' first | assumption | exact Ext.refl _ | refine Ext.app ?_ _)) only [go_sem, hp2.len, hp2.idx, hp2.load, c1, loadN_at g0]; rfl))))
    refine adraw_call (N := []) (firstD (refBend_c hL2)) ?_
    rw [List.append_nil]
    ((repeat (first | refine q1 ?_ | refine q2 ?_ | refine q3 ?_ | refine q4 ?_ | refine q5 ?_ | refine q6 ?_ | refine q7 ?_ | refine q8 ?_ | refine q9 ?_ | refine qa ?_ | refine qb ?_ | refine qc ?_ | refine qd ?_ | refine qe (by decide) ?_ | refine qf ?_ | refine qg ?_ | ((first | apply aops_all | apply adraw_all); (simp (disch := first | exact List.all_nil | omega | (simp only [go_sem]; done) | (simp only [ln, List.length_map]; omega) | (repeat' first | assumption | exact Ext.refl _ | refine Ext.app ?_ _)) only [go_sem]; rfl)))); (try ((first | apply aops_until | apply adraw_until); (simp (disch := first | exact List.all_nil | omega | (simp only [go_sem]; done) | (simp only [ln, List.length_map]; omega) | (repeat' first | assumption | exact Ext.refl _ | refine Ext.app ?_ _)) only [go_sem]; rfl))))
    refine ⟨by omega, rfl, ?_⟩
    simp [forget, costTo, pixOf, bendAt, hi0]
end
end Go.Lq

namespace Go.Lq
open Go
open Go.Proofs

def nbL (w c : Nat) : List Nat := (List.range (min (c + 1) (w - 1) + 1 - (c - 1))).map fun i => c - 1 + i
def nbV (l : List Nat) : List (List Value) := l.map fun d : Nat => [Value.int .i64 (d : Int)]
theorem nbL_len (w c : Nat) : (nbL w c).length = min (c + 1) (w - 1) + 1 - (c - 1) := by simp [nbL]
theorem nbL_getD {w c i : Nat} (h : i < (nbL w c).length) : (nbL w c).getD i 0 = c - 1 + i := by
  rw [nbL_len] at h
  unfold nbL
  rw [getD_map_range h]
theorem nbL_drop {w c i : Nat} (h : i < (nbL w c).length) : (nbL w c).drop i = (c - 1 + i) :: (nbL w c).drop (i + 1) := by
  rw [drop_getD (d := 0) h, nbL_getD h]
theorem nbL_mem {w c d : Nat} (hw : c < w) : d ∈ nbL w c ↔ d < w ∧ d ≤ c + 1 ∧ c ≤ d + 1 := by
  simp only [nbL, List.mem_map, List.mem_range]
  constructor
  · rintro ⟨i, hi, rfl⟩; omega
  · rintro ⟨h1, h2, h3⟩; exact ⟨d - (c - 1), by omega, by omega⟩

section
variable {H : AHeap}
def NbFact (idc idt c : Nat) (ll : List (List Int)) (vs : List Value) (v : Value) (bend : Int) (H : AHeap) : Prop :=
  H[idc]? = some (.cells true 0 [.int .i64 c]) ∧ H[idt]? = some (.cells true 0 [v, .int .i64 bend]) ∧ Lists H ll vs v

theorem nb1_c {idc idt c : Nat} {ll : List (List Int)} {vs : List Value} {v : Value} {bend : Int} (h0 : 0 < ll.length) (hw : (ll.getD 0 []).length ≤ 1000) (hc : c < (ll.getD 0 []).length) :
    GenA Go.Proofs.Tryd.prog 144 [] [.pointer (some ⟨idc, 0, none⟩), .pointer (some ⟨idt, 0, none⟩)] (NbFact idc idt c ll vs v bend) (nbV (nbL (ll.getD 0 []).length c)) := by
  intro l I S H hF hround hI0
  show ACall _ _ [.func (.yield l) #[] #[], .pointer (some ⟨idc, 0, none⟩), .pointer (some ⟨idt, 0, none⟩)] _ _
  obtain ⟨f1, f2, f3⟩ := hF _ _ hI0
  obtain ⟨w, hwd⟩ : ∃ w, w = (ll.getD 0 []).length := ⟨_, rfl⟩
  rw [← hwd] at hw hc hI0
  have c0 : max 0 ((c : Int) - 1) = ((c - 1 : Nat) : Int) := by omega
  have hlen := nbL_len w c
  (refine a144 ?_; simp only [n144, List.replicate, List.length_cons, List.length_nil, List.cons_append, List.nil_append])
  ((repeat (first | refine q1 ?_ | refine q2 ?_ | refine q3 ?_ | refine q4 ?_ | refine q5 ?_ | refine q6 ?_ | refine q7 ?_ | refine q8 ?_ | refine q9 ?_ | refine qa ?_ | refine qb ?_ | refine qc ?_ | refine qd ?_ | refine qe (by decide) ?_ | refine qf ?_ | refine qg ?_ | ((first | apply aops_all | apply adraw_all); (simp (disch := first | exact List.all_nil | omega | (simp only [go_sem]; done) | (simp only [ln, List.length_map]; omega) | (repeat' first | assumption | exact Ext.refl _ | refine Ext.app ?_ _)) only [go_sem, load_at f1, c0]; rfl)))); (try ((first | apply aops_until | apply adraw_until); (simp (disch := first | exact List.all_nil | omega | (simp only [go_sem]; done) | (simp only [ln, List.length_map]; omega) | (repeat' first | assumption | exact Ext.refl _ | refine Ext.app ?_ _)) only [go_sem, load_at f1, c0]; rfl))))
  refine awp_loop_n [true, true, true, false, true, false, false, false, false, false, false, false, false, false, false, false, false, false, false, false, false, false] (nbL w c).length (fun i e H' => e = [.func (.yield l) #[] #[], .pointer (some ⟨idc, 0, none⟩), .pointer (some ⟨idt, 0, none⟩), junk, .int .i64 ((c - 1 + i : Nat) : Int), junk, junk, junk, junk, junk, junk, junk, junk, junk, junk, junk, junk, junk, junk, junk, junk, junk] ∧ I (nbV ((nbL w c).drop i)) H') ?_ ?_
  · exact ⟨by simp [forget], hI0⟩
  rintro i e H1 hi ⟨rfl, hI⟩
  obtain ⟨f1', f2', f3'⟩ := hF _ _ hI
  ((repeat (first | refine q1 ?_ | refine q2 ?_ | refine q3 ?_ | refine q4 ?_ | refine q5 ?_ | refine q6 ?_ | refine q7 ?_ | refine q8 ?_ | refine q9 ?_ | refine qa ?_ | refine qb ?_ | refine qc ?_ | refine qd ?_ | refine qe (by decide) ?_ | refine qf ?_ | refine qg ?_ | ((first | apply aops_all | apply adraw_all); (simp (disch := first | exact List.all_nil | omega | (simp only [go_sem]; done) | (simp only [ln, List.length_map]; omega) | (repeat' first | assumption | exact Ext.refl _ | refine Ext.app ?_ _)) only [go_sem, load_at f1', loadN_at f2']; rfl)))); (try ((first | apply aops_until | apply adraw_until); (simp (disch := first | exact List.all_nil | omega | (simp only [go_sem]; done) | (simp only [ln, List.length_map]; omega) | (repeat' first | assumption | exact Ext.refl _ | refine Ext.app ?_ _)) only [go_sem, load_at f1', loadN_at f2']; rfl))))
  refine adraw_call (N := []) (firstD (columns_c f3' h0)) ?_
  rw [List.append_nil, ← hwd]
  ((repeat (first | refine q1 ?_ | refine q2 ?_ | refine q3 ?_ | refine q4 ?_ | refine q5 ?_ | refine q6 ?_ | refine q7 ?_ | refine q8 ?_ | refine q9 ?_ | refine qa ?_ | refine qb ?_ | refine qc ?_ | refine qd ?_ | refine qe (by decide) ?_ | refine qf ?_ | refine qg ?_ | ((first | apply aops_all | apply adraw_all); (simp (disch := first | exact List.all_nil | omega | (simp only [go_sem]; done) | (simp only [ln, List.length_map]; omega) | (repeat' first | assumption | exact Ext.refl _ | refine Ext.app ?_ _)) only [go_sem]; rfl)))); (try ((first | apply aops_until | apply adraw_until); (simp (disch := first | exact List.all_nil | omega | (simp only [go_sem]; done) | (simp only [ln, List.length_map]; omega) | (repeat' first | assumption | exact Ext.refl _ | refine Ext.app ?_ _)) only [go_sem]; rfl))))
  refine cond_p rfl (fun hle => ?_) (fun hgt => ?_)
  rotate_left 1
  · obtain rfl : i = (nbL w c).length := by omega
    rw [drop_end (Nat.le_refl _)] at hI
    ((repeat (first | refine q1 ?_ | refine q2 ?_ | refine q3 ?_ | refine q4 ?_ | refine q5 ?_ | refine q6 ?_ | refine q7 ?_ | refine q8 ?_ | refine q9 ?_ | refine qa ?_ | refine qb ?_ | refine qc ?_ | refine qd ?_ | refine qe (by decide) ?_ | refine qf ?_ | refine qg ?_ | ((first | apply aops_all | apply adraw_all); (simp (disch := first | exact List.all_nil | omega | (simp only [go_sem]; done) | (simp only [ln, List.length_map]; omega) | (repeat' first | assumption | exact Ext.refl _ | refine Ext.app ?_ _)) only [go_sem]; rfl)))); (try ((first | apply aops_until | apply adraw_until); (simp (disch := first | exact List.all_nil | omega | (simp only [go_sem]; done) | (simp only [ln, List.length_map]; omega) | (repeat' first | assumption | exact Ext.refl _ | refine Ext.app ?_ _)) only [go_sem]; rfl))))
    exact ⟨.inl rfl, undef, rfl, .inl hI⟩
  have hi' : i < (nbL w c).length := by omega
  rw [nbL_drop hi'] at hI
  ((repeat (first | refine q1 ?_ | refine q2 ?_ | refine q3 ?_ | refine q4 ?_ | refine q5 ?_ | refine q6 ?_ | refine q7 ?_ | refine q8 ?_ | refine q9 ?_ | refine qa ?_ | refine qb ?_ | refine qc ?_ | refine qd ?_ | refine qe (by decide) ?_ | refine qf ?_ | refine qg ?_ | ((first | apply aops_all | apply adraw_all); (simp (disch := first | exact List.all_nil | omega | (simp only [go_sem]; done) | (simp only [ln, List.length_map]; omega) | (repeat' first | assumption | exact Ext.refl _ | refine Ext.app ?_ _)) only [go_sem]; rfl)))); (try ((first | apply aops_until | apply adraw_until); (simp (disch := first | exact List.all_nil | omega | (simp only [go_sem]; done) | (simp only [ln, List.length_map]; omega) | (repeat' first | assumption | exact Ext.refl _ | refine Ext.app ?_ _)) only [go_sem]; rfl))))
  refine aops_call ((hround _ _ _ hI).mono fun v1 H3 h => ?_)
  rcases h with ⟨rfl, hI3⟩ | ⟨rfl, hS⟩
  · ((repeat (first | refine q1 ?_ | refine q2 ?_ | refine q3 ?_ | refine q4 ?_ | refine q5 ?_ | refine q6 ?_ | refine q7 ?_ | refine q8 ?_ | refine q9 ?_ | refine qa ?_ | refine qb ?_ | refine qc ?_ | refine qd ?_ | refine qe (by decide) ?_ | refine qf ?_ | refine qg ?_ | ((first | apply aops_all | apply adraw_all); (simp (disch := first | exact List.all_nil | omega | (simp only [go_sem]; done) | (simp only [ln, List.length_map]; omega) | (repeat' first | assumption | exact Ext.refl _ | refine Ext.app ?_ _)) only [go_sem]; rfl)))); (try ((first | apply aops_until | apply adraw_until); (simp (disch := first | exact List.all_nil | omega | (simp only [go_sem]; done) | (simp only [ln, List.length_map]; omega) | (repeat' first | assumption | exact Ext.refl _ | refine Ext.app ?_ _)) only [go_sem]; rfl))))
    refine cond_f rfl ?_
    ((repeat (first | refine q1 ?_ | refine q2 ?_ | refine q3 ?_ | refine q4 ?_ | refine q5 ?_ | refine q6 ?_ | refine q7 ?_ | refine q8 ?_ | refine q9 ?_ | refine qa ?_ | refine qb ?_ | refine qc ?_ | refine qd ?_ | refine qe (by decide) ?_ | refine qf ?_ | refine qg ?_ | ((first | apply aops_all | apply adraw_all); (simp (disch := first | exact List.all_nil | omega | (simp only [go_sem]; done) | (simp only [ln, List.length_map]; omega) | (repeat' first | assumption | exact Ext.refl _ | refine Ext.app ?_ _)) only [go_sem]; rfl)))); (try ((first | apply aops_until | apply adraw_until); (simp (disch := first | exact List.all_nil | omega | (simp only [go_sem]; done) | (simp only [ln, List.length_map]; omega) | (repeat' first | assumption | exact Ext.refl _ | refine Ext.app ?_ _)) only [go_sem]; rfl))))
    exact ⟨by omega, by simp [forget]; omega, hI3⟩
  · ((repeat (first | refine q1 ?_ | refine q2 ?_ | refine q3 ?_ | refine q4 ?_ | refine q5 ?_ | refine q6 ?_ | refine q7 ?_ | refine q8 ?_ | refine q9 ?_ | refine qa ?_ | refine qb ?_ | refine qc ?_ | refine qd ?_ | refine qe (by decide) ?_ | refine qf ?_ | refine qg ?_ | ((first | apply aops_all | apply adraw_all); (simp (disch := first | exact List.all_nil | omega | (simp only [go_sem]; done) | (simp only [ln, List.length_map]; omega) | (repeat' first | assumption | exact Ext.refl _ | refine Ext.app ?_ _)) only [go_sem]; rfl)))); (try ((first | apply aops_until | apply adraw_until); (simp (disch := first | exact List.all_nil | omega | (simp only [go_sem]; done) | (simp only [ln, List.length_map]; omega) | (repeat' first | assumption | exact Ext.refl _ | refine Ext.app ?_ _)) only [go_sem]; rfl))))
    refine cond_t rfl ?_
    ((repeat (first | refine q1 ?_ | refine q2 ?_ | refine q3 ?_ | refine q4 ?_ | refine q5 ?_ | refine q6 ?_ | refine q7 ?_ | refine q8 ?_ | refine q9 ?_ | refine qa ?_ | refine qb ?_ | refine qc ?_ | refine qd ?_ | refine qe (by decide) ?_ | refine qf ?_ | refine qg ?_ | ((first | apply aops_all | apply adraw_all); (simp (disch := first | exact List.all_nil | omega | (simp only [go_sem]; done) | (simp only [ln, List.length_map]; omega) | (repeat' first | assumption | exact Ext.refl _ | refine Ext.app ?_ _)) only [go_sem]; rfl)))); (try ((first | apply aops_until | apply adraw_until); (simp (disch := first | exact List.all_nil | omega | (simp only [go_sem]; done) | (simp only [ln, List.length_map]; omega) | (repeat' first | assumption | exact Ext.refl _ | refine Ext.app ?_ _)) only [go_sem]; rfl))))
    exact ⟨.inr rfl, undef, rfl, .inr hS⟩

theorem neighbors_c {ll : List (List Int)} {vs : List Value} {v : Value} {bend c : Int} (hL : Lists H ll vs v) :
    ACall Go.Proofs.Tryd.prog 130 [.agg ⟨[v, .int .i64 bend]⟩, .int .i64 c] H fun v1 H' =>
      v1 = .func (.func 144) #[] #[.pointer (some ⟨H.length + 1, 0, none⟩), .pointer (some ⟨H.length, 0, none⟩)] ∧ H' = H ++ [.cells true 0 [v, .int .i64 bend]] ++ [.cells true 0 [.int .i64 c]] := by
  (refine a130 ?_; simp only [n130, List.replicate, List.length_cons, List.length_nil, List.cons_append, List.nil_append])
  ((repeat (first | refine q1 ?_ | refine q2 ?_ | refine q3 ?_ | refine q4 ?_ | refine q5 ?_ | refine q6 ?_ | refine q7 ?_ | refine q8 ?_ | refine q9 ?_ | refine qa ?_ | refine qb ?_ | refine qc ?_ | refine qd ?_ | refine qe (by decide) ?_ | refine qf ?_ | refine qg ?_ | ((first | apply aops_all | apply adraw_all); (simp (disch := first | exact List.all_nil | omega | (simp only [go_sem]; done) | (simp only [ln, List.length_map]; omega) | (repeat' first | assumption | exact Ext.refl _ | refine Ext.app ?_ _)) only [go_sem, hL.box2]; rfl)))); (try ((first | apply aops_until | apply adraw_until); (simp (disch := first | exact List.all_nil | omega | (simp only [go_sem]; done) | (simp only [ln, List.length_map]; omega) | (repeat' first | assumption | exact Ext.refl _ | refine Ext.app ?_ _)) only [go_sem, hL.box2]; rfl))))
  refine fin_1 ⟨?_, rfl⟩
  simp [go_sem]

def ceilGo (bend : Int) (bef : List Int) (c : Nat) : Int → List Nat → Int
  | m, [] => m
  | m, d :: t => ceilGo bend bef c (min m (bef.getD d 0 + bendI bend d c)) t
def ceilL (ll : List (List Int)) (bend : Int) (bef : List Int) (row c : Nat) : Int := (ll.getD row []).getD c 0 + ceilGo bend bef c 1000000 (nbL (ll.getD 0 []).length c)

theorem ceiling_c {ll : List (List Int)} {vs : List Value} {v vb : Value} {bend : Int} {bef : List Int} {row c : Nat} (hL : Lists H ll vs v) (hB : Ints H bef vb) (hg : gridErrL 40 12 ll = 0) (hb : 0 ≤ bend ∧ bend ≤ 1000)
    (hbl : bef.length = (ll.getD 0 []).length) (hbv : ∀ d : Nat, -1000000 ≤ bef.getD d 0 ∧ bef.getD d 0 ≤ 1000000) (hrow : row < ll.length) (hc : c < (ll.getD 0 []).length) :
    ACall Go.Proofs.Tryd.prog 117 [.agg ⟨[v, .int .i64 bend]⟩, .int .i64 row, .int .i64 c, vb] H fun v1 H' => v1 = .int .i64 (ceilL ll bend bef row c) ∧ H' = H := by
  refine ACall.drop (.int _ _) ?_
  obtain ⟨w1, w2, w3, w4, w5, w6⟩ := gridErr_ok hg
  obtain ⟨w, hwd⟩ : ∃ w, w = (ll.getD 0 []).length := ⟨_, rfl⟩
  obtain ⟨ba, bn, bc, rfl⟩ : ∃ a n c, vb = .slice a n c := by
    rcases hB.2 with ⟨rfl, _⟩ | ⟨id, off, c, rfl, _⟩ <;> exact ⟨_, _, _, rfl⟩
  have hbx : ∀ {H' : AHeap}, boxR (.slice ba bn bc) H' = some (.pointer (some ⟨H'.length, 0, none⟩), H' ++ [.cells true 0 [.slice ba bn bc]]) := rfl
  (refine a117 ?_; simp only [n117, List.replicate, List.length_cons, List.length_nil, List.cons_append, List.nil_append])
  ((repeat (first | refine q1 ?_ | refine q2 ?_ | refine q3 ?_ | refine q4 ?_ | refine q5 ?_ | refine q6 ?_ | refine q7 ?_ | refine q8 ?_ | refine q9 ?_ | refine qa ?_ | refine qb ?_ | refine qc ?_ | refine qd ?_ | refine qe (by decide) ?_ | refine qf ?_ | refine qg ?_ | ((first | apply aops_all | apply adraw_all); (simp (disch := first | exact List.all_nil | omega | (simp only [go_sem]; done) | (simp only [ln, List.length_map]; omega) | (repeat' first | assumption | exact Ext.refl _ | refine Ext.app ?_ _)) only [go_sem, hL.box2, hbx]; rfl)))); (try ((first | apply aops_until | apply adraw_until); (simp (disch := first | exact List.all_nil | omega | (simp only [go_sem]; done) | (simp only [ln, List.length_map]; omega) | (repeat' first | assumption | exact Ext.refl _ | refine Ext.app ?_ _)) only [go_sem, hL.box2, hbx]; rfl))))
  (simp only [List.length_append, List.length_cons, List.length_nil, Nat.zero_add, Nat.add_assoc, Nat.reduceAdd])
  obtain ⟨G, hG⟩ : ∃ G, G = H ++ [AObj.cells true 0 [v, .int .i64 bend]] ++ [AObj.cells true 0 [.int .i64 c]] ++ [AObj.cells true 0 [.slice ba bn bc]] ++ [AObj.cells true 0 [.int .i64 1000000]] := ⟨_, rfl⟩
  have g0 : G[H.length]? = some (.cells true 0 [v, .int .i64 bend]) := by rw [hG]; exact at_app (at_app (at_app at_new))
  have g1 : G[H.length + 1]? = some (.cells true 0 [.int .i64 c]) := by rw [hG]; refine at_app (at_app ?_); simp
  have g2 : G[H.length + 2]? = some (.cells true 0 [.slice ba bn bc]) := by rw [hG]; refine at_app ?_; simp
  have g3 : G[H.length + 3]? = some (.cells true 0 [.int .i64 1000000]) := by rw [hG]; simp
  have xG : Ext H G := by rw [hG]; exact ((((Ext.refl H).app _).app _).app _).app _
  have lG : G.length = H.length + 4 := by rw [hG]; simp
  rw [← hG]
  clear hG
  ((repeat (first | refine q1 ?_ | refine q2 ?_ | refine q3 ?_ | refine q4 ?_ | refine q5 ?_ | refine q6 ?_ | refine q7 ?_ | refine q8 ?_ | refine q9 ?_ | refine qa ?_ | refine qb ?_ | refine qc ?_ | refine qd ?_ | refine qe (by decide) ?_ | refine qf ?_ | refine qg ?_ | ((first | apply aops_all | apply adraw_all); (simp (disch := first | exact List.all_nil | omega | (simp only [go_sem]; done) | (simp only [ln, List.length_map]; omega) | (repeat' first | assumption | exact Ext.refl _ | refine Ext.app ?_ _)) only [go_sem, loadN_at g0, load_at g1]; rfl)))); (try ((first | apply aops_until | apply adraw_until); (simp (disch := first | exact List.all_nil | omega | (simp only [go_sem]; done) | (simp only [ln, List.length_map]; omega) | (repeat' first | assumption | exact Ext.refl _ | refine Ext.app ?_ _)) only [go_sem, loadN_at g0, load_at g1]; rfl))))
  refine aops_call ((neighbors_c (hL.ext xG)).mono fun v1 G1 ⟨e1, e2⟩ => ?_)
  subst e1
  have k0 : G1[H.length]? = some (.cells true 0 [v, .int .i64 bend]) := by rw [e2]; exact at_app (at_app g0)
  have k1 : G1[H.length + 1]? = some (.cells true 0 [.int .i64 c]) := by rw [e2]; exact at_app (at_app g1)
  have k2 : G1[H.length + 2]? = some (.cells true 0 [.slice ba bn bc]) := by rw [e2]; exact at_app (at_app g2)
  have k3 : G1[H.length + 3]? = some (.cells true 0 [.int .i64 1000000]) := by rw [e2]; exact at_app (at_app g3)
  have k4 : G1[G.length]? = some (.cells true 0 [v, .int .i64 bend]) := by rw [e2]; exact at_app at_new
  have k5 : G1[G.length + 1]? = some (.cells true 0 [.int .i64 c]) := by rw [e2]; simp
  have x1 : Ext H G1 := by rw [e2]; exact (xG.app _).app _
  have l1 : G1.length = H.length + 6 := by rw [e2]; simp [lG]
  have hself : G1.set (H.length + 3) (.cells true 0 [.int .i64 1000000]) = G1 := set_self k3
  clear e2
  have low : ∀ {m : Int} {H' : AHeap} {i : Nat} {c : AObj}, Ext (G1.set (H.length + 3) (.cells true 0 [.int .i64 m])) H' → i ≠ H.length + 3 → G1[i]? = some c → H'[i]? = some c := fun hx hi hc => hx.cell (by rw [List.getElem?_set_ne (Ne.symm hi)]; exact hc)
  have xlow : ∀ {m : Int} {H' : AHeap}, Ext (G1.set (H.length + 3) (.cells true 0 [.int .i64 m])) H' → Ext H H' := fun hx => (x1.set (by omega) _).trans hx
  (repeat (first | refine q1 ?_ | refine q2 ?_ | refine q3 ?_ | refine q4 ?_ | refine q5 ?_ | refine q6 ?_ | refine q7 ?_ | refine q8 ?_ | refine q9 ?_ | refine qa ?_ | refine qb ?_ | refine qc ?_ | refine qd ?_ | refine qe (by decide) ?_ | refine qf ?_ | refine qg ?_))
  refine awp_rangeA mo rfl (fun l h => by cases h) (nb1_c (idc := G.length + 1) (idt := G.length) (c := c) (ll := ll) (vs := vs) (v := v) (bend := bend) w1 (by omega) hc)
    (fun rest H' => ∃ m tl, rest = nbV tl ∧ Ext (G1.set (H.length + 3) (.cells true 0 [.int .i64 m])) H' ∧ ceilGo bend bef c m tl = ceilGo bend bef c 1000000 (nbL (ll.getD 0 []).length c) ∧ (-2000000 ≤ m ∧ m ≤ 1000000) ∧ ∀ d ∈ tl, d < (ll.getD 0 []).length)
    (fun _ _ => False) ?_ (fun _ _ _ h => h.elim) ?_ ?_ ?_ ?_ (fun _ _ _ h => h.elim)
  · rintro rest H' c' ⟨m, tl, h1, h2, h3⟩
    exact ⟨m, tl, h1, h2.set (by simp) _, h3⟩
  · rintro rest H' ⟨m, tl, h1, h2, h3⟩
    exact ⟨low h2 (by omega) k5, low h2 (by omega) k4, hL.ext (xlow h2)⟩
  · intro N
    refine ⟨1000000, nbL (ll.getD 0 []).length c, rfl, ?_, rfl, by omega, fun d hd => ((nbL_mem hc).1 hd).1⟩
    rw [hself]; exact (Ext.refl _).app _
  · rintro a rest H1 ⟨m, tl, h1, h2, h3, h4, h5⟩ hlt
    match tl, h1 with
    | d :: tl, h1 =>
    obtain ⟨rfl, rfl⟩ := List.cons.inj h1
    refine ⟨rfl, fun R Rb _ hR => ?_⟩
    simp only [assignParams, List.zip_cons_cons, List.zip_nil_left, List.foldl_cons, List.foldl_nil]
    ((repeat (first | refine q1 ?_ | refine q2 ?_ | refine q3 ?_ | refine q4 ?_ | refine q5 ?_ | refine q6 ?_ | refine q7 ?_ | refine q8 ?_ | refine q9 ?_ | refine qa ?_ | refine qb ?_ | refine qc ?_ | refine qd ?_ | refine qe (by decide) ?_ | refine qf ?_ | refine qg ?_ | ((first | apply aops_all | apply adraw_all); (simp (disch := first | exact List.all_nil | omega | (simp only [go_sem]; done) | (simp only [ln, List.length_map]; omega) | (repeat' first | assumption | exact Ext.refl _ | refine Ext.app ?_ _)) only [go_sem]; rfl)))); (try ((first | apply aops_until | apply adraw_until); (simp (disch := first | exact List.all_nil | omega | (simp only [go_sem]; done) | (simp only [ln, List.length_map]; omega) | (repeat' first | assumption | exact Ext.refl _ | refine Ext.app ?_ _)) only [go_sem]; rfl))))
    refine ⟨rfl, hR, ?_⟩
    have hRb := get_set_self (d := Rb) hR
    have h2' : Ext (G1.set (H.length + 3) (.cells true 0 [.int .i64 m])) (H1.set G1.length Rb) := h2.set (by simp) _
    generalize (H1.set G1.length Rb : AHeap) = Hb at h2' hRb
    have b0 := low h2' (by omega) k0
    have b1 := low h2' (by omega) k1
    have b2 := low h2' (by omega) k2
    have b3 : Hb[H.length + 3]? = some (.cells true 0 [.int .i64 m]) := h2'.cell (List.getElem?_set_self (by omega))
    have hBb := hB.ext (xlow h2')
    have hLb := hL.ext (xlow h2')
    have hd := h5 d (by simp)
    have hdb := hbv d
    have bb := bendI_bound (a := (d : Int)) (b := (c : Int)) hb
    ((repeat (first | refine q1 ?_ | refine q2 ?_ | refine q3 ?_ | refine q4 ?_ | refine q5 ?_ | refine q6 ?_ | refine q7 ?_ | refine q8 ?_ | refine q9 ?_ | refine qa ?_ | refine qb ?_ | refine qc ?_ | refine qd ?_ | refine qe (by decide) ?_ | refine qf ?_ | refine qg ?_ | ((first | apply aops_all | apply adraw_all); (simp (disch := first | exact List.all_nil | omega | (simp only [go_sem]; done) | (simp only [ln, List.length_map]; omega) | (repeat' first | assumption | exact Ext.refl _ | refine Ext.app ?_ _)) only [go_sem, hBb.len, hBb.idx, hBb.load, load_at b0, load_at b1, load_at b2, load_at b3, loadN_at b0]; rfl)))); (try ((first | apply aops_until | apply adraw_until); (simp (disch := first | exact List.all_nil | omega | (simp only [go_sem]; done) | (simp only [ln, List.length_map]; omega) | (repeat' first | assumption | exact Ext.refl _ | refine Ext.app ?_ _)) only [go_sem, hBb.len, hBb.idx, hBb.load, load_at b0, load_at b1, load_at b2, load_at b3, loadN_at b0]; rfl))))
    refine adraw_call (N := []) (firstD (bend_c hLb)) ?_
    rw [List.append_nil]
    ((repeat (first | refine q1 ?_ | refine q2 ?_ | refine q3 ?_ | refine q4 ?_ | refine q5 ?_ | refine q6 ?_ | refine q7 ?_ | refine q8 ?_ | refine q9 ?_ | refine qa ?_ | refine qb ?_ | refine qc ?_ | refine qd ?_ | refine qe (by decide) ?_ | refine qf ?_ | refine qg ?_ | ((first | apply aops_all | apply adraw_all); (simp (disch := first | exact List.all_nil | omega | (simp only [go_sem]; done) | (simp only [ln, List.length_map]; omega) | (repeat' first | assumption | exact Ext.refl _ | refine Ext.app ?_ _)) only [go_sem, store_at1 (y := .int .i64 (min m (bef.getD d 0 + bendI bend d c))) b3 rfl rfl]; rfl)))); (try ((first | apply aops_until | apply adraw_until); (simp (disch := first | exact List.all_nil | omega | (simp only [go_sem]; done) | (simp only [ln, List.length_map]; omega) | (repeat' first | assumption | exact Ext.refl _ | refine Ext.app ?_ _)) only [go_sem, store_at1 (y := .int .i64 (min m (bef.getD d 0 + bendI bend d c))) b3 rfl rfl]; rfl))))
    refine rounded_n ?_ ⟨min m (bef.getD d 0 + bendI bend d c), tl, rfl, ?_, h3, by omega, fun d hd => h5 d (by simp [hd])⟩
    · rw [List.getElem?_set_ne (by omega)]; exact hRb
    · have := h2'.set_both (k := H.length + 3) (by simp; omega) (.cells true 0 [.int .i64 (min m (bef.getD d 0 + bendI bend d c))])
      rwa [List.set_set] at this
  · rintro H' ⟨m, tl, h1, h2, h3, h4, h5⟩
    have : tl = [] := List.map_eq_nil_iff.1 h1.symm
    subst this
    have hLe := hL.ext (xlow h2)
    have hre := hLe.row hrow
    have hwr := w5 row hrow
    have b0 := low h2 (by omega) k0
    have b1 := low h2 (by omega) k1
    have b3 : H'[H.length + 3]? = some (.cells true 0 [.int .i64 m]) := h2.cell (List.getElem?_set_self (by omega))
    have vb := val_bound w6 row c
    ((repeat (first | refine q1 ?_ | refine q2 ?_ | refine q3 ?_ | refine q4 ?_ | refine q5 ?_ | refine q6 ?_ | refine q7 ?_ | refine q8 ?_ | refine q9 ?_ | refine qa ?_ | refine qb ?_ | refine qc ?_ | refine qd ?_ | refine qe (by decide) ?_ | refine qf ?_ | refine qg ?_ | ((first | apply aops_all | apply adraw_all); (simp (disch := first | exact List.all_nil | omega | (simp only [go_sem]; done) | (simp only [ln, List.length_map]; omega) | (repeat' first | assumption | exact Ext.refl _ | refine Ext.app ?_ _)) only [go_sem, hLe.len, hLe.idx, hLe.load, hre.len, hre.idx, hre.load, load_at b0, load_at b1, load_at b3]; rfl)))); (try ((first | apply aops_until | apply adraw_until); (simp (disch := first | exact List.all_nil | omega | (simp only [go_sem]; done) | (simp only [ln, List.length_map]; omega) | (repeat' first | assumption | exact Ext.refl _ | refine Ext.app ?_ _)) only [go_sem, hLe.len, hLe.idx, hLe.load, hre.len, hre.idx, hre.load, load_at b0, load_at b1, load_at b3]; rfl))))
    refine fin_1 ⟨?_, xlow h2⟩
    unfold ceilL
    rw [← h3]; rfl
end
end Go.Lq

namespace Go.Lq
open Go
open Go.Proofs

def vAt (ll : List (List Int)) (r c : Nat) : Int := (ll.getD r []).getD c 0
def minGo (f : Nat → Int) : Int → List Nat → Int
  | m, [] => m
  | m, d :: t => minGo f (min m (f d)) t
/-- What it costs at least from the column c of the row with k rows below. -/
def restK (ll : List (List Int)) (bend : Int) (isL : Nat → Bool) : Nat → Nat → Int
  | 0, c => if isL c then vAt ll (ll.length - 1) c else 1000000
  | k + 1, c => minGo (fun d => vAt ll (ll.length - 2 - k) c + bendI bend (c : Int) (d : Int) + restK ll bend isL k d) 1000000 (nbL (ll.getD 0 []).length c)
def nextK (ll : List (List Int)) (bend : Int) (isL : Nat → Bool) (k c : Nat) : Nat :=
  ((nbL (ll.getD 0 []).length c).find? fun d : Nat => decide (vAt ll (ll.length - 2 - k) c + bendI bend (c : Int) (d : Int) + restK ll bend isL k d = restK ll bend isL (k + 1) c)).getD c
def followL (ll : List (List Int)) (bend : Int) (isL : Nat → Bool) : Nat → Nat → List Int
  | 0, c => [(c : Int)]
  | k + 1, c => (c : Int) :: followL ll bend isL k (nextK ll bend isL k c)
theorem followL_len (ll : List (List Int)) (bend : Int) (isL : Nat → Bool) : ∀ k c, (followL ll bend isL k c).length = k + 1
  | 0, c => rfl
  | k + 1, c => by simp [followL, followL_len ll bend isL k]

def refGo (c : Nat) (vf : Nat → Int) (R : Nat → List Int × Int) : List Int × Int → List Nat → List Int × Int
  | acc, [] => acc
  | acc, d :: t => refGo c vf R (if 0 ≤ (R d).2 ∧ (acc.2 < 0 ∨ vf d + (R d).2 < acc.2) then ((c : Int) :: (R d).1, vf d + (R d).2) else acc) t
def refK (ll : List (List Int)) (bend : Int) (isL : Nat → Bool) : Nat → Nat → List Int × Int
  | 0, c => if isL c then ([(c : Int)], vAt ll (ll.length - 1) c) else ([], -1)
  | k + 1, c => refGo c (fun d => vAt ll (ll.length - 2 - k) c + bendI bend (c : Int) (d : Int)) (refK ll bend isL k) ([], -1) (nbL (ll.getD 0 []).length c)

theorem minGo_append (f : Nat → Int) : ∀ (l : List Nat) (m : Int) (d : Nat), minGo f m (l ++ [d]) = min (minGo f m l) (f d)
  | [], m, d => rfl
  | a :: l, m, d => by simp only [List.cons_append, minGo]; exact minGo_append f l _ d
theorem minGo_spec (f : Nat → Int) : ∀ (l : List Nat) (m : Int), minGo f m l ≤ m ∧ (∀ d ∈ l, minGo f m l ≤ f d) ∧ (minGo f m l = m ∨ ∃ d ∈ l, f d = minGo f m l)
  | [], m => ⟨Int.le_refl _, by simp, .inl rfl⟩
  | a :: l, m => by
    obtain ⟨h1, h2, h3⟩ := minGo_spec f l (min m (f a))
    simp only [minGo]
    refine ⟨by omega, fun d hd => ?_, ?_⟩
    · rcases List.mem_cons.1 hd with rfl | hd
      · omega
      · exact h2 d hd
    · rcases h3 with h3 | ⟨d, hd, h3⟩
      · by_cases hm : m ≤ f a
        · left; omega
        · right; exact ⟨a, by simp, by omega⟩
      · right; exact ⟨d, by simp [hd], h3⟩

section
variable {ll : List (List Int)} {bend : Int} {isL : Nat → Bool}
theorem restK_bound (hv : ∀ i, i < ll.length → ∀ n ∈ ll.getD i [], 0 ≤ n ∧ n ≤ 255) (hb : 0 ≤ bend ∧ bend ≤ 1000) : ∀ k c, 0 ≤ restK ll bend isL k c ∧ restK ll bend isL k c ≤ 1000000 ∧ (restK ll bend isL k c < 1000000 → restK ll bend isL k c ≤ 1255 * (k + 1))
  | 0, c => by
    have := val_bound hv (ll.length - 1) c
    unfold restK vAt
    split
    · omega
    · omega
  | k + 1, c => by
    have h0 := minGo_spec (fun d => vAt ll (ll.length - 2 - k) c + bendI bend (c : Int) (d : Int) + restK ll bend isL k d) (nbL (ll.getD 0 []).length c) 1000000
    have hvb := val_bound hv (ll.length - 2 - k) c
    have e : restK ll bend isL (k + 1) c = minGo (fun d => vAt ll (ll.length - 2 - k) c + bendI bend (c : Int) (d : Int) + restK ll bend isL k d) 1000000 (nbL (ll.getD 0 []).length c) := rfl
    rw [← e] at h0
    obtain ⟨h1, h2, h3⟩ := h0
    rcases h3 with h3 | ⟨d, _, h3⟩
    · rw [h3]; omega
    · have hr := restK_bound hv hb k d
      have hbb := bendI_bound (a := (c : Int)) (b := (d : Int)) hb
      simp only [vAt] at h3 hvb
      push_cast
      omega

theorem refGo_rest {f : Nat → Int} {R : Nat → List Int × Int} {F : Nat → List Int} {r : Nat → Int} {c : Nat} (hf : ∀ d, 0 ≤ f d) (hR : ∀ d, R d = if r d < 1000000 then (F d, r d) else ([], -1)) (hr0 : ∀ d, 0 ≤ r d) (hr : ∀ d, r d < 1000000 → f d + r d < 1000000) :
    ∀ (l pre : List Nat) (acc : List Int × Int), (acc = if minGo (fun d => f d + r d) 1000000 pre < 1000000 then ((c : Int) :: F ((pre.find? fun d : Nat => decide (f d + r d = minGo (fun d => f d + r d) 1000000 pre)).getD c), minGo (fun d => f d + r d) 1000000 pre) else ([], -1)) →
      refGo c f R acc l = if minGo (fun d => f d + r d) 1000000 (pre ++ l) < 1000000 then ((c : Int) :: F (((pre ++ l).find? fun d : Nat => decide (f d + r d = minGo (fun d => f d + r d) 1000000 (pre ++ l))).getD c), minGo (fun d => f d + r d) 1000000 (pre ++ l)) else ([], -1)
  | [], pre, acc, h => by rw [List.append_nil]; exact h
  | d :: l, pre, acc, h => by
    rw [show pre ++ d :: l = (pre ++ [d]) ++ l by simp]
    refine refGo_rest hf hR hr0 hr l (pre ++ [d]) (if 0 ≤ (R d).2 ∧ (acc.2 < 0 ∨ f d + (R d).2 < acc.2) then ((c : Int) :: (R d).1, f d + (R d).2) else acc) ?_
    obtain ⟨h1, h2, h3⟩ := minGo_spec (fun d => f d + r d) pre 1000000
    have hap := minGo_append (fun d => f d + r d) pre 1000000 d
    obtain ⟨m, hm⟩ : ∃ m, m = minGo (fun d => f d + r d) 1000000 pre := ⟨_, rfl⟩
    rw [← hm] at h h1 h2 h3 hap
    rw [hap]
    have hfd := hf d
    have hrd := hr0 d
    have none_lt : ∀ x : Int, x < m → pre.find? (fun d => decide (f d + r d = x)) = none := fun x hx => by
      rw [List.find?_eq_none]
      intro a ha
      have := h2 a ha
      simp only [decide_eq_true_iff]
      omega
    by_cases hd : r d < 1000000
    · have hlt := hr d hd
      rw [hR d, if_pos hd]
      simp only
      by_cases hm1 : m < 1000000
      · rw [if_pos hm1] at h
        have hm0 : 0 ≤ m := by
          rcases h3 with h3 | ⟨a, _, h3⟩
          · omega
          · have := hf a; have := hr0 a; omega
        by_cases hup : f d + r d < m
        · rw [if_pos ⟨hrd, .inr (by rw [h]; exact hup)⟩, Int.min_eq_right (show f d + r d ≤ m by omega), if_pos hlt, List.find?_append, none_lt _ hup]
          simp
        · rw [if_neg (fun hc => by rw [h] at hc; simp only at hc; omega), Int.min_eq_left (show m ≤ f d + r d by omega), if_pos hm1, h]
          obtain ⟨a, ha, hfa⟩ : ∃ a ∈ pre, f a + r a = m := by
            rcases h3 with h3 | h3
            · omega
            · exact h3
          have hsome : (pre.find? fun d : Nat => decide (f d + r d = m)).isSome = true := by
            rw [List.find?_isSome]; exact ⟨a, ha, by simpa using hfa⟩
          obtain ⟨x, hx⟩ := Option.isSome_iff_exists.1 hsome
          rw [List.find?_append, hx]
          rfl
      · rw [if_neg hm1] at h
        rw [if_pos ⟨hrd, .inl (by rw [h]; decide)⟩, Int.min_eq_right (show f d + r d ≤ m by omega), if_pos hlt, List.find?_append, none_lt _ (by omega)]
        simp
    · rw [hR d, if_neg hd, if_neg (fun hc => absurd hc.1 (by decide))]
      have hge : 1000000 ≤ f d + r d := by omega
      rw [Int.min_eq_left (show m ≤ f d + r d by omega)]
      by_cases hm1 : m < 1000000
      · rw [if_pos hm1] at h ⊢
        obtain ⟨a, ha, hfa⟩ : ∃ a ∈ pre, f a + r a = m := by
          rcases h3 with h3 | h3
          · omega
          · exact h3
        have hsome : (pre.find? fun d : Nat => decide (f d + r d = m)).isSome = true := by
          rw [List.find?_isSome]; exact ⟨a, ha, by simpa using hfa⟩
        obtain ⟨x, hx⟩ := Option.isSome_iff_exists.1 hsome
        rw [h, List.find?_append, hx]
        rfl
      · rw [if_neg hm1] at h ⊢
        exact h

/-- The reference's paths and costs are those of the program. -/
theorem refK_eq (hv : ∀ i, i < ll.length → ∀ n ∈ ll.getD i [], 0 ≤ n ∧ n ≤ 255) (hb : 0 ≤ bend ∧ bend ≤ 1000) : ∀ k c, k < 100 → refK ll bend isL k c = if restK ll bend isL k c < 1000000 then (followL ll bend isL k c, restK ll bend isL k c) else ([], -1)
  | 0, c, _ => by
    have := val_bound hv (ll.length - 1) c
    unfold refK restK
    cases isL c with
    | true =>
      simp only [if_true]
      rw [if_pos (by unfold vAt; omega)]; rfl
    | false => simp
  | k + 1, c, hk => by
    have hbd := restK_bound (isL := isL) hv hb k
    have hvb := val_bound hv (ll.length - 2 - k) c
    have := refGo_rest (c := c) (f := fun d => vAt ll (ll.length - 2 - k) c + bendI bend (c : Int) (d : Int)) (R := refK ll bend isL k) (F := followL ll bend isL k) (r := restK ll bend isL k)
      (fun d => by have := bendI_bound (a := (c : Int)) (b := (d : Int)) hb; simp only [vAt]; omega) (fun d => refK_eq hv hb k d (by omega)) (fun d => (hbd d).1)
      (fun d hd => by have := (hbd d).2.2 hd; have := bendI_bound (a := (c : Int)) (b := (d : Int)) hb; simp only [vAt]; omega) (nbL (ll.getD 0 []).length c) [] ([], -1) (by simp [minGo])
    rw [List.nil_append] at this
    refine Eq.trans ?_ (this.trans ?_)
    · rfl
    · rw [show restK ll bend isL (k + 1) c = minGo (fun d => vAt ll (ll.length - 2 - k) c + bendI bend (c : Int) (d : Int) + restK ll bend isL k d) 1000000 (nbL (ll.getD 0 []).length c) from rfl]
      rfl
end
end Go.Lq

namespace Go.Lq
open Go
open Go.Proofs
theorem awp_runR {n : Nat} {c : RCode} {ar : Option Nat} {e : Env} {H H' : AHeap} {x : AExit} {a b : Nat} {va vb : Value} {Q : AExit → Env → AHeap → Prop}
    (h : (run TA colO n (.code c ar e) H).map (fun r => (r.1, r.2.1.getD a undef, r.2.1.getD b undef, r.2.2.1)) = some (x, va, vb, H')) (k : ∀ e', e'.getD a undef = va → e'.getD b undef = vb → Q x e' H') : AWP Go.Proofs.Tryd.prog ar c Q e H := by
  cases hr : run TA colO n (.code c ar e) H with
  | none => rw [hr] at h; cases h
  | some r =>
    obtain ⟨x', e', H'', lo⟩ := r
    rw [hr] at h
    simp only [Option.map_some, Option.some.injEq, Prod.mk.injEq] at h
    obtain ⟨rfl, h1, h2, rfl⟩ := h
    exact awp_run hr (k e' h1 h2)
section
variable {H : AHeap}
theorem closed_uu (a b : Int) : Closed (.tuple #[.int .u64 a, .int .u64 b]) := .tuple _ (closed_list (l := [.int .u64 a, .int .u64 b]) fun v hv => by
  simp only [List.mem_cons, List.not_mem_nil, or_false] at hv
  rcases hv with rfl | rfl <;> exact .int _ _)
theorem mul_of {n : Int} (hx : Ext H0 H) (h : (run TA colO 200 (.code R143.code none ([.int .u64 1, .int .u64 n] ++ List.replicate (R143.ntmps - [Value.int .u64 1, Value.int .u64 n].length) undef)) H0).map (fun r => (r.1, r.2.1.getD 4 undef, r.2.1.getD 5 undef, r.2.2.1)) = some (.ret, .int .u64 0, .int .u64 n, H0)) :
    ACall Go.Proofs.Tryd.prog 143 [.int .u64 1, .int .u64 n] H fun v H' => v = .tuple #[.int .u64 0, .int .u64 n] ∧ H' = H := by
  obtain ⟨M, rfl⟩ := hx
  refine ACall.frame (by rw [globals_size]; decide) own0 (fun x hx => ?_) (closed_uu _ _) ?_ M
  · simp only [List.mem_cons, List.not_mem_nil, or_false] at hx
    rcases hx with rfl | rfl <;> exact .int _ _
  refine a143 ?_
  refine awp_runR h fun e' h1 h2 => ?_
  refine fin_2 (a := 4) (b := 5) ⟨?_, rfl⟩
  rw [h1, h2]
theorem mul_c {n : Nat} (hx : Ext H0 H) (h0 : 1 ≤ n) (h12 : n ≤ 12) : ACall Go.Proofs.Tryd.prog 143 [.int .u64 1, .int .u64 (n : Int)] H fun v H' => v = .tuple #[.int .u64 0, .int .u64 (n : Int)] ∧ H' = H := by
  match n, h0, h12 with
  | 1, _, _ => exact mul_of hx (by kernel_rfl)
  | 2, _, _ => exact mul_of hx (by kernel_rfl)
  | 3, _, _ => exact mul_of hx (by kernel_rfl)
  | 4, _, _ => exact mul_of hx (by kernel_rfl)
  | 5, _, _ => exact mul_of hx (by kernel_rfl)
  | 6, _, _ => exact mul_of hx (by kernel_rfl)
  | 7, _, _ => exact mul_of hx (by kernel_rfl)
  | 8, _, _ => exact mul_of hx (by kernel_rfl)
  | 9, _, _ => exact mul_of hx (by kernel_rfl)
  | 10, _, _ => exact mul_of hx (by kernel_rfl)
  | 11, _, _ => exact mul_of hx (by kernel_rfl)
  | 12, _, _ => exact mul_of hx (by kernel_rfl)
end
end Go.Lq

namespace Go.Lq
open Go
open Go.Proofs

theorem wrap_u64 {n : Int} (h : 0 ≤ n ∧ n ≤ 9223372036854775807) : IntKind.u64.wrap n = n := by
  unfold IntKind.wrap IntKind.bits
  have : (2 : Int) ^ 64 = 18446744073709551616 := by decide
  simp [IntKind.signed]
  omega
theorem conv_iu {n : Int} {H : AHeap} (h : 0 ≤ n ∧ n ≤ 9223372036854775807) : convR .u64 (.int .i64 n) H = some (.int .u64 n, H) := by
  show some (Value.int .u64 (IntKind.u64.wrap n), H) = _
  rw [wrap_u64 h]
theorem conv_ui {n : Int} {H : AHeap} (h : 0 ≤ n ∧ n ≤ 9223372036854775807) : convR .i64 (.int .u64 n) H = some (.int .i64 n, H) := by
  show some (Value.int .i64 (w64 n), H) = _
  rw [w64_id (by omega) (by omega)]
theorem c_gtr_u {a b : Int} {H : AHeap} : cmpR .gtr (.int .u64 a) (.int .u64 b) H = some (.bool (decide (b < a)), H) := rfl

/-- m times f, then zeros. -/
def partR (f : Int) (m n : Nat) : List Value := List.replicate m (.int .i64 f) ++ List.replicate (n - m) (.int .i64 0)
theorem partR_len {f : Int} {m n : Nat} (h : m ≤ n) : (partR f m n).length = n := by simp [partR]; omega
theorem partR_set {f : Int} {m n c : Nat} (h : m + c ≤ n) : setCells (partR f m n) m (List.replicate c (.int .i64 f)) = partR f (m + c) n := by
  unfold setCells partR
  rw [List.take_append_of_le_length (by simp), List.take_of_length_le (by simp), List.length_replicate, List.drop_append, List.drop_eq_nil_of_le (by simp), List.nil_append, List.length_replicate, List.drop_replicate]
  rw [← List.replicate_append_replicate (n := m) (m := c), show n - m - (m + c - m) = n - (m + c) by omega]
theorem partR_take {f : Int} {m n c : Nat} (h : c ≤ m) : (partR f m n).take c = List.replicate c (.int .i64 f) := by
  unfold partR
  rw [List.take_append_of_le_length (by simpa using h), List.take_replicate, Nat.min_eq_left h]
theorem all_rep (c : Nat) (f : Int) : (List.replicate c (Value.int .i64 f)).all isAtom = true := List.all_eq_true.2 fun v hv => by rw [List.eq_of_mem_replicate hv]; rfl

theorem slice_from {k n c m : Nat} {H : AHeap} (h : m ≤ n) : sliceR 1 (.slice (some ⟨k, 0, none⟩) n c) (some (.int .i64 (m : Int))) none none H = some (.slice (some ⟨k, m, none⟩) (n - m) (if n = m then 1 else n - m), H) := by
  have e1 : ((n : Int) - (m : Int)).toNat = n - m := by omega
  have e2 : ((n : Int) = (m : Int)) = (n = m) := by rw [eq_iff_iff]; omega
  simp only [sliceR, sliceA, loA, hiA]
  rw [if_pos (by omega)]
  simp only [Option.map_some, e1, e2, Int.toNat_natCast, Nat.mul_one, Nat.zero_add]
theorem slice_to {k n c m : Nat} {H : AHeap} (h : m ≤ n) : sliceR 1 (.slice (some ⟨k, 0, none⟩) n c) none (some (.int .i64 (m : Int))) none H = some (.slice (some ⟨k, 0, none⟩) m (if m = 0 then 1 else m), H) := by
  have e1 : ((m : Int) - 0).toNat = m := by omega
  have e2 : ((m : Int) = 0) = (m = 0) := by simp
  simp only [sliceR, sliceA, loA, hiA]
  rw [if_pos (by omega)]
  simp only [Option.map_some, e1, e2, Int.toNat_zero, Nat.zero_mul, Nat.zero_add]

theorem copy_part {H : AHeap} {k n m c1 c2 : Nat} {f : Int} (h : H[k]? = some (.cells true 1 (partR f m n))) (h1 : 1 ≤ m) (h2 : m < n) :
    copyA 1 H (.slice (some ⟨k, m, none⟩) (n - m) c1) (.slice (some ⟨k, 0, none⟩) m c2) = some (.int .i64 ((Nat.min m (n - m) : Nat) : Int), H.set k (.cells true 1 (partR f (m + Nat.min m (n - m)) n))) := by
  obtain ⟨a, ha⟩ : ∃ a, n - m = a + 1 := ⟨n - m - 1, by omega⟩
  obtain ⟨b, rfl⟩ : ∃ b, m = b + 1 := ⟨m - 1, by omega⟩
  rw [ha]
  obtain ⟨c, hc⟩ : ∃ c, c = Nat.min (b + 1) (a + 1) := ⟨_, rfl⟩
  have hc1 : c ≤ b + 1 := by rw [hc]; exact Nat.min_le_left _ _
  have hc2 : c ≤ a + 1 := by rw [hc]; exact Nat.min_le_right _ _
  have hl := partR_len (f := f) (m := b + 1) (n := n) (by omega)
  have hca : cellsAt H k 0 (c * 1) = some (List.replicate c (.int .i64 f)) := by
    unfold cellsAt
    rw [h]
    simp only
    rw [if_pos (by omega), List.drop_zero, Nat.mul_one, partR_take hc1]
  have hst : storeAt H k (b + 1) (List.replicate c (.int .i64 f)) = some (H.set k (.cells true 1 (partR f (b + 1 + c) n))) := by
    unfold storeAt
    rw [h]
    simp only
    rw [if_pos ⟨by rw [List.length_replicate]; omega, all_rep c f⟩, partR_set (by omega)]
  simp only [copyA]
  rw [← hc, hca]
  simp only [hst, Option.map_some]
theorem copy_first {H : AHeap} {k n c1 c2 : Nat} {f : Int} {id off : Nat} (h : H[k]? = some (.cells true 1 (partR f 0 n))) (h2 : 1 ≤ n) (hs : cellsAt H id off 1 = some [.int .i64 f]) :
    copyA 1 H (.slice (some ⟨k, 0, none⟩) n c1) (.slice (some ⟨id, off, none⟩) 1 c2) = some (.int .i64 1, H.set k (.cells true 1 (partR f 1 n))) := by
  obtain ⟨a, rfl⟩ : ∃ a, n = a + 1 := ⟨n - 1, by omega⟩
  have hm : Nat.min (0 + 1) (a + 1) = 1 := Nat.min_eq_left (by omega)
  have hst : storeAt H k 0 [.int .i64 f] = some (H.set k (.cells true 1 (partR f 1 (a + 1)))) := by
    unfold storeAt
    rw [h]
    simp only
    rw [if_pos ⟨by rw [partR_len (by omega)]; simp, rfl⟩]
    have := partR_set (f := f) (m := 0) (n := a + 1) (c := 1) (by omega)
    rw [Nat.zero_add] at this
    rw [← this]; rfl
  simp only [copyA]
  rw [hm, Nat.one_mul, hs]
  simp only [hst, Option.map_some]
  rfl

section
variable {H : AHeap}
theorem repeat_c {f : Int} {v : Value} {n : Nat} (hx : Ext H0 H) (hv : Ints H [f] v) (h0 : 1 ≤ n) (h12 : n ≤ 12) :
    ACall Go.Proofs.Tryd.prog 129 [v, .int .i64 n] H (IntsRet H (List.replicate n f)) := by
  refine ACall.ints ?_
  obtain ⟨id, off, cc, rfl, hca⟩ : ∃ id off cc, v = .slice (some ⟨id, off, none⟩) 1 cc ∧ cellsAt H id off 1 = some [.int .i64 f] := by
    rcases hv.2 with ⟨_, h⟩ | ⟨id, off, c, rfl, hc⟩
    · cases h
    · exact ⟨id, off, c, rfl, hc (by simp)⟩
  (refine a129 ?_; simp only [n129, List.replicate, List.length_cons, List.length_nil, List.cons_append, List.nil_append])
  ((repeat (first | refine q1 ?_ | refine q2 ?_ | refine q3 ?_ | refine q4 ?_ | refine q5 ?_ | refine q6 ?_ | refine q7 ?_ | refine q8 ?_ | refine q9 ?_ | refine qa ?_ | refine qb ?_ | refine qc ?_ | refine qd ?_ | refine qe (by decide) ?_ | refine qf ?_ | refine qg ?_ | ((first | apply aops_all | apply adraw_all); (simp (disch := first | exact List.all_nil | omega | (simp only [go_sem]; done) | (simp only [ln, List.length_map]; omega) | (repeat' first | assumption | exact Ext.refl _ | refine Ext.app ?_ _)) only [go_sem, dec_f (show ¬ (n : Int) < 0 by omega)]; rfl)))); (try ((first | apply aops_until | apply adraw_until); (simp (disch := first | exact List.all_nil | omega | (simp only [go_sem]; done) | (simp only [ln, List.length_map]; omega) | (repeat' first | assumption | exact Ext.refl _ | refine Ext.app ?_ _)) only [go_sem, dec_f (show ¬ (n : Int) < 0 by omega)]; rfl))))
  refine cond_f rfl ?_
  ((repeat (first | refine q1 ?_ | refine q2 ?_ | refine q3 ?_ | refine q4 ?_ | refine q5 ?_ | refine q6 ?_ | refine q7 ?_ | refine q8 ?_ | refine q9 ?_ | refine qa ?_ | refine qb ?_ | refine qc ?_ | refine qd ?_ | refine qe (by decide) ?_ | refine qf ?_ | refine qg ?_ | ((first | apply aops_all | apply adraw_all); (simp (disch := first | exact List.all_nil | omega | (simp only [go_sem]; done) | (simp only [ln, List.length_map]; omega) | (repeat' first | assumption | exact Ext.refl _ | refine Ext.app ?_ _)) only [go_sem, conv_iu (n := (n : Int)) (by omega), show ((1 : Nat) : Int) = 1 from rfl, conv_iu (n := 1) (by omega)]; rfl)))); (try ((first | apply aops_until | apply adraw_until); (simp (disch := first | exact List.all_nil | omega | (simp only [go_sem]; done) | (simp only [ln, List.length_map]; omega) | (repeat' first | assumption | exact Ext.refl _ | refine Ext.app ?_ _)) only [go_sem, conv_iu (n := (n : Int)) (by omega), show ((1 : Nat) : Int) = 1 from rfl, conv_iu (n := 1) (by omega)]; rfl))))
  refine aops_call_to (mul_c hx h0 h12) ?_
  ((repeat (first | refine q1 ?_ | refine q2 ?_ | refine q3 ?_ | refine q4 ?_ | refine q5 ?_ | refine q6 ?_ | refine q7 ?_ | refine q8 ?_ | refine q9 ?_ | refine qa ?_ | refine qb ?_ | refine qc ?_ | refine qd ?_ | refine qe (by decide) ?_ | refine qf ?_ | refine qg ?_ | ((first | apply aops_all | apply adraw_all); (simp (disch := first | exact List.all_nil | omega | (simp only [go_sem]; done) | (simp only [ln, List.length_map]; omega) | (repeat' first | assumption | exact Ext.refl _ | refine Ext.app ?_ _)) only [go_sem, c_gtr_u, dec_f (show ¬ (0 : Int) < 0 by decide), dec_f (show ¬ (9223372036854775807 : Int) < (n : Int) by omega)]; rfl)))); (try ((first | apply aops_until | apply adraw_until); (simp (disch := first | exact List.all_nil | omega | (simp only [go_sem]; done) | (simp only [ln, List.length_map]; omega) | (repeat' first | assumption | exact Ext.refl _ | refine Ext.app ?_ _)) only [go_sem, c_gtr_u, dec_f (show ¬ (0 : Int) < 0 by decide), dec_f (show ¬ (9223372036854775807 : Int) < (n : Int) by omega)]; rfl))))
  refine cond_f rfl ?_
  have hz : H ++ [AObj.cells true 1 ((List.replicate n (0 : Int)).map (.int .i64))] = H ++ [.cells true 1 (partR f 0 n)] := by simp [partR]
  ((repeat (first | refine q1 ?_ | refine q2 ?_ | refine q3 ?_ | refine q4 ?_ | refine q5 ?_ | refine q6 ?_ | refine q7 ?_ | refine q8 ?_ | refine q9 ?_ | refine qa ?_ | refine qb ?_ | refine qc ?_ | refine qd ?_ | refine qe (by decide) ?_ | refine qf ?_ | refine qg ?_ | ((first | apply aops_all | apply adraw_all); (simp (disch := first | exact List.all_nil | omega | (simp only [go_sem]; done) | (simp only [ln, List.length_map]; omega) | (repeat' first | assumption | exact Ext.refl _ | refine Ext.app ?_ _)) only [go_sem, conv_ui (n := (n : Int)) (by omega), mkSlice_ints (n := n) (by omega) (by omega), hz]; rfl)))); (try ((first | apply aops_until | apply adraw_until); (simp (disch := first | exact List.all_nil | omega | (simp only [go_sem]; done) | (simp only [ln, List.length_map]; omega) | (repeat' first | assumption | exact Ext.refl _ | refine Ext.app ?_ _)) only [go_sem, conv_ui (n := (n : Int)) (by omega), mkSlice_ints (n := n) (by omega) (by omega), hz]; rfl))))
  have hk : (H ++ [AObj.cells true 1 (partR f 0 n)])[H.length]? = some (.cells true 1 (partR f 0 n)) := at_new
  have hcp := copy_first (c1 := n) (c2 := cc) hk h0 (cellsAt_ext ((Ext.refl H).app _) hca)
  have hx1 : Ext H ((H ++ [AObj.cells true 1 (partR f 0 n)]).set H.length (.cells true 1 (partR f 1 n))) := ((Ext.refl H).app _).set (Nat.le_refl _) _
  have hk1 := get_set_self (d := AObj.cells true 1 (partR f 1 n)) hk
  ((repeat (first | refine q1 ?_ | refine q2 ?_ | refine q3 ?_ | refine q4 ?_ | refine q5 ?_ | refine q6 ?_ | refine q7 ?_ | refine q8 ?_ | refine q9 ?_ | refine qa ?_ | refine qb ?_ | refine qc ?_ | refine qd ?_ | refine qe (by decide) ?_ | refine qf ?_ | refine qg ?_ | ((first | apply aops_all | apply adraw_all); (simp (disch := first | exact List.all_nil | omega | (simp only [go_sem]; done) | (simp only [ln, List.length_map]; omega) | (repeat' first | assumption | exact Ext.refl _ | refine Ext.app ?_ _)) only [go_sem, hcp]; rfl)))); (try ((first | apply aops_until | apply adraw_until); (simp (disch := first | exact List.all_nil | omega | (simp only [go_sem]; done) | (simp only [ln, List.length_map]; omega) | (repeat' first | assumption | exact Ext.refl _ | refine Ext.app ?_ _)) only [go_sem, hcp]; rfl))))
  refine awp_loop_n [false, false, false, false, false, false, false, true, true, false, false, false, false, false, false, false, false, false, false, false, false, false, false, false, false, false, false, false, false, false, false, false, false, false, false, false, false, false, false, false, false, false, false, false, false, false, false, false] n (fun i e H' => ∃ m : Nat, e = [junk, junk, junk, junk, junk, junk, junk, .slice (some ⟨H.length, 0, none⟩) n n, .int .i64 m, junk, junk, junk, junk, junk, junk, junk, junk, junk, junk, junk, junk, junk, junk, junk, junk, junk, junk, junk, junk, junk, junk, junk, junk, junk, junk, junk, junk, junk, junk, junk, junk, junk, junk, junk, junk, junk, junk, junk] ∧ Ext H H' ∧ H'[H.length]? = some (.cells true 1 (partR f m n)) ∧ i + 1 ≤ m ∧ m ≤ n) ?_ ?_
  · exact ⟨1, by simp [forget], hx1, hk1, by omega, h0⟩
  rintro i e H2 hi ⟨m, rfl, hx2, hk2, hm1, hm2⟩
  ((repeat (first | refine q1 ?_ | refine q2 ?_ | refine q3 ?_ | refine q4 ?_ | refine q5 ?_ | refine q6 ?_ | refine q7 ?_ | refine q8 ?_ | refine q9 ?_ | refine qa ?_ | refine qb ?_ | refine qc ?_ | refine qd ?_ | refine qe (by decide) ?_ | refine qf ?_ | refine qg ?_ | ((first | apply aops_all | apply adraw_all); (simp (disch := first | exact List.all_nil | omega | (simp only [go_sem]; done) | (simp only [ln, List.length_map]; omega) | (repeat' first | assumption | exact Ext.refl _ | refine Ext.app ?_ _)) only [go_sem]; rfl)))); (try ((first | apply aops_until | apply adraw_until); (simp (disch := first | exact List.all_nil | omega | (simp only [go_sem]; done) | (simp only [ln, List.length_map]; omega) | (repeat' first | assumption | exact Ext.refl _ | refine Ext.app ?_ _)) only [go_sem]; rfl))))
  refine cond_p rfl (fun hlt => ?_) (fun hge => ?_)
  · have hmn : m < n := by omega
    have hcp2 := copy_part (c1 := if n = m then 1 else n - m) (c2 := if m = 0 then 1 else m) hk2 (by omega) hmn
    have hmin : Nat.min m (n - m) ≤ n - m := Nat.min_le_right _ _
    have hmin1 : 1 ≤ Nat.min m (n - m) := Nat.le_min.2 ⟨by omega, by omega⟩
    ((repeat (first | refine q1 ?_ | refine q2 ?_ | refine q3 ?_ | refine q4 ?_ | refine q5 ?_ | refine q6 ?_ | refine q7 ?_ | refine q8 ?_ | refine q9 ?_ | refine qa ?_ | refine qb ?_ | refine qc ?_ | refine qd ?_ | refine qe (by decide) ?_ | refine qf ?_ | refine qg ?_ | ((first | apply aops_all | apply adraw_all); (simp (disch := first | exact List.all_nil | omega | (simp only [go_sem]; done) | (simp only [ln, List.length_map]; omega) | (repeat' first | assumption | exact Ext.refl _ | refine Ext.app ?_ _)) only [go_sem, slice_from (k := H.length) (c := n) hm2, slice_to (k := H.length) (c := n) hm2, hcp2]; rfl)))); (try ((first | apply aops_until | apply adraw_until); (simp (disch := first | exact List.all_nil | omega | (simp only [go_sem]; done) | (simp only [ln, List.length_map]; omega) | (repeat' first | assumption | exact Ext.refl _ | refine Ext.app ?_ _)) only [go_sem, slice_from (k := H.length) (c := n) hm2, slice_to (k := H.length) (c := n) hm2, hcp2]; rfl))))
    refine ⟨by omega, m + Nat.min m (n - m), by simp [forget], hx2.set (Nat.le_refl _) _, get_set_self hk2, by omega, by omega⟩
  · obtain rfl : m = n := by omega
    have e1 : partR f m m = (List.replicate m f).map (.int .i64) := by simp [partR]
    ((repeat (first | refine q1 ?_ | refine q2 ?_ | refine q3 ?_ | refine q4 ?_ | refine q5 ?_ | refine q6 ?_ | refine q7 ?_ | refine q8 ?_ | refine q9 ?_ | refine qa ?_ | refine qb ?_ | refine qc ?_ | refine qd ?_ | refine qe (by decide) ?_ | refine qf ?_ | refine qg ?_ | ((first | apply aops_all | apply adraw_all); (simp (disch := first | exact List.all_nil | omega | (simp only [go_sem]; done) | (simp only [ln, List.length_map]; omega) | (repeat' first | assumption | exact Ext.refl _ | refine Ext.app ?_ _)) only [go_sem]; rfl)))); (try ((first | apply aops_until | apply adraw_until); (simp (disch := first | exact List.all_nil | omega | (simp only [go_sem]; done) | (simp only [ln, List.length_map]; omega) | (repeat' first | assumption | exact Ext.refl _ | refine Ext.app ?_ _)) only [go_sem]; rfl))))
    refine fin_1 ⟨hx2, ?_⟩
    refine ⟨by simp, .inr ⟨H.length, by simp, Nat.le_refl _, by rw [List.length_replicate]; omega, by rw [hk2, e1]⟩⟩
end
end Go.Lq

namespace Go.Lq
open Go
open Go.Proofs

def backV (vs : List Value) : Nat → List (List Value)
  | 0 => []
  | n + 1 => [.int .i64 n, vs.getD n undef] :: backV vs n
section
variable {H : AHeap}
def BackFact (idt : Nat) (ll : List (List Int)) (vs : List Value) (v : Value) (H : AHeap) : Prop := H[idt]? = some (.cells true 0 [v]) ∧ Lists H ll vs v

theorem back1_c {idt : Nat} {ll : List (List Int)} {vs : List Value} {v : Value} (h1000 : ll.length ≤ 1000) :
    GenA Go.Proofs.Tryd.prog 142 [] [.pointer (some ⟨idt, 0, none⟩)] (BackFact idt ll vs v) (backV vs ll.length) := by
  intro l I S H hF hround hI0
  show ACall _ _ [.func (.yield l) #[] #[], .pointer (some ⟨idt, 0, none⟩)] _ _
  obtain ⟨f1, f2⟩ := hF _ _ hI0
  (refine a142 ?_; simp only [n142, List.replicate, List.length_cons, List.length_nil, List.cons_append, List.nil_append])
  ((repeat (first | refine q1 ?_ | refine q2 ?_ | refine q3 ?_ | refine q4 ?_ | refine q5 ?_ | refine q6 ?_ | refine q7 ?_ | refine q8 ?_ | refine q9 ?_ | refine qa ?_ | refine qb ?_ | refine qc ?_ | refine qd ?_ | refine qe (by decide) ?_ | refine qf ?_ | refine qg ?_ | ((first | apply aops_all | apply adraw_all); (simp (disch := first | exact List.all_nil | omega | (simp only [go_sem]; done) | (simp only [ln, List.length_map]; omega) | (repeat' first | assumption | exact Ext.refl _ | refine Ext.app ?_ _)) only [go_sem, f2.len, f2.idx, f2.load, load_at f1]; rfl)))); (try ((first | apply aops_until | apply adraw_until); (simp (disch := first | exact List.all_nil | omega | (simp only [go_sem]; done) | (simp only [ln, List.length_map]; omega) | (repeat' first | assumption | exact Ext.refl _ | refine Ext.app ?_ _)) only [go_sem, f2.len, f2.idx, f2.load, load_at f1]; rfl))))
  refine awp_loop_n [true, true, false, true, false, false, false, false, false, false, false, false, false, false, false, false, false, false, false] ll.length (fun i e H' => e = [.func (.yield l) #[] #[], .pointer (some ⟨idt, 0, none⟩), junk, .int .i64 ((ll.length : Int) - 1 - i), junk, junk, junk, junk, junk, junk, junk, junk, junk, junk, junk, junk, junk, junk, junk] ∧ I (backV vs (ll.length - i)) H') ?_ ?_
  · exact ⟨by simp [forget], hI0⟩
  rintro i e H1 hi ⟨rfl, hI⟩
  obtain ⟨f1', f2'⟩ := hF _ _ hI
  ((repeat (first | refine q1 ?_ | refine q2 ?_ | refine q3 ?_ | refine q4 ?_ | refine q5 ?_ | refine q6 ?_ | refine q7 ?_ | refine q8 ?_ | refine q9 ?_ | refine qa ?_ | refine qb ?_ | refine qc ?_ | refine qd ?_ | refine qe (by decide) ?_ | refine qf ?_ | refine qg ?_ | ((first | apply aops_all | apply adraw_all); (simp (disch := first | exact List.all_nil | omega | (simp only [go_sem]; done) | (simp only [ln, List.length_map]; omega) | (repeat' first | assumption | exact Ext.refl _ | refine Ext.app ?_ _)) only [go_sem]; rfl)))); (try ((first | apply aops_until | apply adraw_until); (simp (disch := first | exact List.all_nil | omega | (simp only [go_sem]; done) | (simp only [ln, List.length_map]; omega) | (repeat' first | assumption | exact Ext.refl _ | refine Ext.app ?_ _)) only [go_sem]; rfl))))
  refine cond_p rfl (fun hle => ?_) (fun hgt => ?_)
  rotate_left 1
  · obtain rfl : i = ll.length := by omega
    rw [Nat.sub_self] at hI
    ((repeat (first | refine q1 ?_ | refine q2 ?_ | refine q3 ?_ | refine q4 ?_ | refine q5 ?_ | refine q6 ?_ | refine q7 ?_ | refine q8 ?_ | refine q9 ?_ | refine qa ?_ | refine qb ?_ | refine qc ?_ | refine qd ?_ | refine qe (by decide) ?_ | refine qf ?_ | refine qg ?_ | ((first | apply aops_all | apply adraw_all); (simp (disch := first | exact List.all_nil | omega | (simp only [go_sem]; done) | (simp only [ln, List.length_map]; omega) | (repeat' first | assumption | exact Ext.refl _ | refine Ext.app ?_ _)) only [go_sem]; rfl)))); (try ((first | apply aops_until | apply adraw_until); (simp (disch := first | exact List.all_nil | omega | (simp only [go_sem]; done) | (simp only [ln, List.length_map]; omega) | (repeat' first | assumption | exact Ext.refl _ | refine Ext.app ?_ _)) only [go_sem]; rfl))))
    exact ⟨.inl rfl, undef, rfl, .inl hI⟩
  have hi' : i < ll.length := by omega
  obtain ⟨j, hj⟩ : ∃ j, j = ll.length - (i + 1) := ⟨_, rfl⟩
  rw [show ll.length - i = j + 1 by omega] at hI
  have ej : (ll.length : Int) - 1 - i = (j : Int) := by omega
  rw [ej]
  have hjl : j < ll.length := by omega
  ((repeat (first | refine q1 ?_ | refine q2 ?_ | refine q3 ?_ | refine q4 ?_ | refine q5 ?_ | refine q6 ?_ | refine q7 ?_ | refine q8 ?_ | refine q9 ?_ | refine qa ?_ | refine qb ?_ | refine qc ?_ | refine qd ?_ | refine qe (by decide) ?_ | refine qf ?_ | refine qg ?_ | ((first | apply aops_all | apply adraw_all); (simp (disch := first | exact List.all_nil | omega | (simp only [go_sem]; done) | (simp only [ln, List.length_map]; omega) | (repeat' first | assumption | exact Ext.refl _ | refine Ext.app ?_ _)) only [go_sem, f2'.len, f2'.idx, f2'.load, load_at f1', f2'.load (Ext.refl _) hjl]; rfl)))); (try ((first | apply aops_until | apply adraw_until); (simp (disch := first | exact List.all_nil | omega | (simp only [go_sem]; done) | (simp only [ln, List.length_map]; omega) | (repeat' first | assumption | exact Ext.refl _ | refine Ext.app ?_ _)) only [go_sem, f2'.len, f2'.idx, f2'.load, load_at f1', f2'.load (Ext.refl _) hjl]; rfl))))
  refine aops_call ((hround _ _ _ hI).mono fun v1 H3 h => ?_)
  rcases h with ⟨rfl, hI3⟩ | ⟨rfl, hS⟩
  · ((repeat (first | refine q1 ?_ | refine q2 ?_ | refine q3 ?_ | refine q4 ?_ | refine q5 ?_ | refine q6 ?_ | refine q7 ?_ | refine q8 ?_ | refine q9 ?_ | refine qa ?_ | refine qb ?_ | refine qc ?_ | refine qd ?_ | refine qe (by decide) ?_ | refine qf ?_ | refine qg ?_ | ((first | apply aops_all | apply adraw_all); (simp (disch := first | exact List.all_nil | omega | (simp only [go_sem]; done) | (simp only [ln, List.length_map]; omega) | (repeat' first | assumption | exact Ext.refl _ | refine Ext.app ?_ _)) only [go_sem]; rfl)))); (try ((first | apply aops_until | apply adraw_until); (simp (disch := first | exact List.all_nil | omega | (simp only [go_sem]; done) | (simp only [ln, List.length_map]; omega) | (repeat' first | assumption | exact Ext.refl _ | refine Ext.app ?_ _)) only [go_sem]; rfl))))
    refine cond_f rfl ?_
    ((repeat (first | refine q1 ?_ | refine q2 ?_ | refine q3 ?_ | refine q4 ?_ | refine q5 ?_ | refine q6 ?_ | refine q7 ?_ | refine q8 ?_ | refine q9 ?_ | refine qa ?_ | refine qb ?_ | refine qc ?_ | refine qd ?_ | refine qe (by decide) ?_ | refine qf ?_ | refine qg ?_ | ((first | apply aops_all | apply adraw_all); (simp (disch := first | exact List.all_nil | omega | (simp only [go_sem]; done) | (simp only [ln, List.length_map]; omega) | (repeat' first | assumption | exact Ext.refl _ | refine Ext.app ?_ _)) only [go_sem]; rfl)))); (try ((first | apply aops_until | apply adraw_until); (simp (disch := first | exact List.all_nil | omega | (simp only [go_sem]; done) | (simp only [ln, List.length_map]; omega) | (repeat' first | assumption | exact Ext.refl _ | refine Ext.app ?_ _)) only [go_sem]; rfl))))
    exact ⟨by omega, by simp [forget]; omega, by rw [← hj]; exact hI3⟩
  · ((repeat (first | refine q1 ?_ | refine q2 ?_ | refine q3 ?_ | refine q4 ?_ | refine q5 ?_ | refine q6 ?_ | refine q7 ?_ | refine q8 ?_ | refine q9 ?_ | refine qa ?_ | refine qb ?_ | refine qc ?_ | refine qd ?_ | refine qe (by decide) ?_ | refine qf ?_ | refine qg ?_ | ((first | apply aops_all | apply adraw_all); (simp (disch := first | exact List.all_nil | omega | (simp only [go_sem]; done) | (simp only [ln, List.length_map]; omega) | (repeat' first | assumption | exact Ext.refl _ | refine Ext.app ?_ _)) only [go_sem]; rfl)))); (try ((first | apply aops_until | apply adraw_until); (simp (disch := first | exact List.all_nil | omega | (simp only [go_sem]; done) | (simp only [ln, List.length_map]; omega) | (repeat' first | assumption | exact Ext.refl _ | refine Ext.app ?_ _)) only [go_sem]; rfl))))
    refine cond_t rfl ?_
    ((repeat (first | refine q1 ?_ | refine q2 ?_ | refine q3 ?_ | refine q4 ?_ | refine q5 ?_ | refine q6 ?_ | refine q7 ?_ | refine q8 ?_ | refine q9 ?_ | refine qa ?_ | refine qb ?_ | refine qc ?_ | refine qd ?_ | refine qe (by decide) ?_ | refine qf ?_ | refine qg ?_ | ((first | apply aops_all | apply adraw_all); (simp (disch := first | exact List.all_nil | omega | (simp only [go_sem]; done) | (simp only [ln, List.length_map]; omega) | (repeat' first | assumption | exact Ext.refl _ | refine Ext.app ?_ _)) only [go_sem]; rfl)))); (try ((first | apply aops_until | apply adraw_until); (simp (disch := first | exact List.all_nil | omega | (simp only [go_sem]; done) | (simp only [ln, List.length_map]; omega) | (repeat' first | assumption | exact Ext.refl _ | refine Ext.app ?_ _)) only [go_sem]; rfl))))
    exact ⟨.inr rfl, undef, rfl, .inr hS⟩

theorem backward_c {ll : List (List Int)} {vs : List Value} {v : Value} (hL : Lists H ll vs v) :
    ACall Go.Proofs.Tryd.prog 128 [v] H fun v1 H' =>
      v1 = .func (.func 142) #[] #[.pointer (some ⟨H.length, 0, none⟩)] ∧ H' = H ++ [.cells true 0 [v]] := by
  have hb : ∀ {H' : AHeap}, boxR v H' = some (.pointer (some ⟨H'.length, 0, none⟩), H' ++ [.cells true 0 [v]]) := by
    rcases hL.1.2 with ⟨rfl, _⟩ | ⟨id, off, c, rfl, _⟩ <;> exact fun {_} => rfl
  (refine a128 ?_; simp only [n128, List.replicate, List.length_cons, List.length_nil, List.cons_append, List.nil_append])
  ((repeat (first | refine q1 ?_ | refine q2 ?_ | refine q3 ?_ | refine q4 ?_ | refine q5 ?_ | refine q6 ?_ | refine q7 ?_ | refine q8 ?_ | refine q9 ?_ | refine qa ?_ | refine qb ?_ | refine qc ?_ | refine qd ?_ | refine qe (by decide) ?_ | refine qf ?_ | refine qg ?_ | ((first | apply aops_all | apply adraw_all); (simp (disch := first | exact List.all_nil | omega | (simp only [go_sem]; done) | (simp only [ln, List.length_map]; omega) | (repeat' first | assumption | exact Ext.refl _ | refine Ext.app ?_ _)) only [go_sem, hb]; rfl)))); (try ((first | apply aops_until | apply adraw_until); (simp (disch := first | exact List.all_nil | omega | (simp only [go_sem]; done) | (simp only [ln, List.length_map]; omega) | (repeat' first | assumption | exact Ext.refl _ | refine Ext.app ?_ _)) only [go_sem, hb]; rfl))))
  refine fin_1 ⟨?_, rfl⟩
  simp [go_sem]
end
end Go.Lq

namespace Go.Lq
open Go
open Go.Proofs

section
variable {H : AHeap}
theorem mkSlice_nils {n : Nat} {H : AHeap} (h0 : 0 < n) (hn : n ≤ 1000000000) : mkSliceR 24 [.slice none 0 0] (.int .i64 n) (.int .i64 n) H = some (.slice (some ⟨H.length, 0, none⟩) n n, H ++ [.cells true 1 (List.replicate n (.slice none 0 0))]) :=
  mkSlice_zero h0 (roomOk_of (by omega) (by omega)) rfl rfl
theorem OwnR.nils {H : AHeap} (n : Nat) : OwnR H.length (H ++ [.cells true 1 (List.replicate n (.slice none 0 0))]) (List.replicate n []) (List.replicate n (.slice none 0 0)) := by
  have h1 : ∀ i, i < n → (List.replicate n (Value.slice none 0 0)).getD i undef = .slice none 0 0 := fun i hi => by rw [List.getD_eq_getElem?_getD, List.getElem?_replicate, if_pos hi]; rfl
  have h2 : ∀ i, ((List.replicate n ([] : List Int)).getD i []) = [] := fun i => by rw [List.getD_eq_getElem?_getD, List.getElem?_replicate]; split <;> rfl
  refine ⟨at_new, by simp, fun i hi => ?_, fun i hi hl => ?_, fun i j _ hi _ hl => ?_⟩
  · rw [h1 i (by simpa using hi), h2]; exact OwnI.nil _ _
  · rw [h2] at hl; simp at hl
  · rw [h2] at hl; simp at hl

end
end Go.Lq

namespace Go.Lq
open Go
open Go.Proofs

/-- What lies at A is left. -/
def Kp (A : Nat → Prop) (G H : AHeap) : Prop := G.length ≤ H.length ∧ ∀ i c, A i → G[i]? = some c → H[i]? = some c
section
variable {A : Nat → Prop} {G H H' : AHeap} {k L n : Nat} {T : List (List Int)} {vs : List Value}
theorem Kp.refl (A : Nat → Prop) (H : AHeap) : Kp A H H := ⟨Nat.le_refl _, fun _ _ _ h => h⟩
theorem Kp.trans (h : Kp A G H) (h' : Kp A H H') : Kp A G H' := ⟨Nat.le_trans h.1 h'.1, fun i c ha hc => h'.2 i c ha (h.2 i c ha hc)⟩
theorem Kp.app (h : Kp A G H) (N : AHeap) : Kp A G (H ++ N) := ⟨by have := h.1; simp only [List.length_append]; omega, fun i c ha hc => at_app (h.2 i c ha hc)⟩
theorem Kp.set (h : Kp A G H) {j : Nat} (hj : ¬ A j ∨ G.length ≤ j) (o : AObj) : Kp A G (H.set j o) := ⟨by simpa using h.1, fun i c ha hc => by
  have hi := (List.getElem?_eq_some_iff.1 hc).1
  rw [List.getElem?_set_ne]
  · exact h.2 i c ha hc
  · rintro rfl
    rcases hj with hj | hj
    · exact hj ha
    · omega⟩
theorem Kp.mono {B : Nat → Prop} (h : Kp A G H) (hb : ∀ i, i < G.length → B i → A i) : Kp B G H := ⟨h.1, fun i c hi hc => h.2 i c (hb i (List.getElem?_eq_some_iff.1 hc).1 hi) hc⟩
theorem Keeps.kp (h : Keeps k G H) (h' : Kp A H H') (ha : ∀ i, i < G.length → i ≠ k → A i) : Keeps k G H' := ⟨Nat.le_trans h.1 h'.1, fun i hi hk => by
  have e := h.2 i hi hk
  rw [List.getElem?_eq_getElem hi] at e ⊢
  exact h'.2 i _ (ha i hi hk) e⟩

theorem aside_set {l : List Int} {i j : Nat} (hl : l.length = (T.getD i []).length) (h : Aside k T vs j) : Aside k (T.set i l) vs j := by
  refine ⟨h.1, fun a ha ha0 => ?_⟩
  simp only [List.length_set] at ha
  refine h.2 a ha ?_
  by_cases hai : a = i
  · subst hai
    rw [getD_set_eq ha] at ha0
    omega
  · rwa [getD_set_ne (Ne.symm hai)] at ha0
theorem OwnR.setCell3 (h : OwnR k H T vs) {i c : Nat} (hi : i < T.length) (hc : c < (T.getD i []).length) (x : Int) :
    ∃ H2, storeR 1 (addrOf (vs.getD i undef) c) (.int .i64 x) H = some (undef, H2) ∧ OwnR k H2 (T.set i ((T.getD i []).set c x)) vs ∧ Kp (Aside k T vs) H H2 := by
  obtain ⟨h1, h2, h3⟩ := h.setCell hi hc x
  exact ⟨_, h1, h2, by rw [setH_len]; exact Nat.le_refl _, h3⟩

/-- Rows whose objects lie beyond L. -/
def Far (L : Nat) (T : List (List Int)) (vs : List Value) : Prop := ∀ i, i < T.length → 0 < (T.getD i []).length → L < idOf (vs.getD i undef)
theorem Far.aside (h : Far L T vs) {j : Nat} (hj : j ≤ L) (hk : j ≠ k) : Aside k T vs j := ⟨hk, fun i hi hl => by have := h i hi hl; omega⟩
theorem Far.set (h : Far L T vs) {l : List Int} {i : Nat} (hl : l.length = (T.getD i []).length) : Far L (T.set i l) vs := fun a ha ha0 => by
  simp only [List.length_set] at ha
  refine h a ha ?_
  by_cases hai : a = i
  · subst hai
    rw [getD_set_eq ha] at ha0
    omega
  · rwa [getD_set_ne (Ne.symm hai)] at ha0
/-- A new row. -/
theorem OwnR.newRow (h : OwnR k H T vs) {i : Nat} (hi : i < T.length) (l : List Int) (hL : L < H.length) (hf : Far L T vs) :
    ∃ vs2 H2, (∀ n c, storeR 1 (addrOf (.slice (some ⟨k, 0, none⟩) n c) i) (retV H l.length) (H ++ retN 1 l.length (l.map (.int .i64))) = some (undef, H2)) ∧ OwnR k H2 (T.set i l) vs2 ∧ Far L (T.set i l) vs2 ∧ Kp (· ≠ k) H H2 ∧
      ∀ j, j < H.length → Aside k T vs j → Aside k (T.set i l) vs2 j := by
  have hown : OwnI [] (H ++ retN 1 l.length (l.map (.int .i64))) l (retV H l.length) := OwnI.ret_own (by simp)
  have hid : 0 < l.length → idOf (retV H l.length) = H.length := fun h0 => by unfold retV; rw [if_neg (by omega)]; rfl
  obtain ⟨h1, h2⟩ := (h.app (retN 1 l.length (l.map (.int .i64)))).setRow hi hown (fun h0 => by rw [hid h0]; exact h.lt) (fun j hj hji hj0 h0 => by rw [hid h0]; have := h.idlt hj hj0; omega)
  have hvi : i < vs.length := by rw [h.len]; exact hi
  refine ⟨_, _, h1, h2, fun a ha ha0 => ?_, ?_, fun j hj hja => ⟨hja.1, fun a ha ha0 => ?_⟩⟩
  · simp only [List.length_set] at ha
    by_cases hai : a = i
    · subst hai
      rw [getD_set_eq ha] at ha0
      rw [getD_set_eq hvi, hid ha0]; exact hL
    · rw [getD_set_ne (Ne.symm hai)] at ha0
      rw [getD_set_ne (Ne.symm hai)]
      exact hf a ha ha0
  · exact ((Kp.refl _ H).app _).set (.inl (by simp)) _
  · simp only [List.length_set] at ha
    by_cases hai : a = i
    · subst hai
      rw [getD_set_eq ha] at ha0
      rw [getD_set_eq hvi, hid ha0]; omega
    · rw [getD_set_ne (Ne.symm hai)] at ha0
      rw [getD_set_ne (Ne.symm hai)]
      exact hja.2 a ha ha0
end

def restRow (ll : List (List Int)) (bend : Int) (isL : Nat → Bool) (k : Nat) : List Int := (List.range (ll.getD 0 []).length).map (restK ll bend isL k)
def restTab (ll : List (List Int)) (bend : Int) (isL : Nat → Bool) : List (List Int) := (List.range ll.length).map fun r => restRow ll bend isL (ll.length - 1 - r)
/-- The rows from r on. -/
def partT (ll : List (List Int)) (bend : Int) (isL : Nat → Bool) (r : Nat) : List (List Int) := (List.range ll.length).map fun i => if r ≤ i then restRow ll bend isL (ll.length - 1 - i) else []
/-- The first i of a row. -/
def partW (ll : List (List Int)) (bend : Int) (isL : Nat → Bool) (k i : Nat) : List Int := (List.range (ll.getD 0 []).length).map fun c => if c < i then restK ll bend isL k c else 1000000
section
variable {ll : List (List Int)} {bend : Int} {isL : Nat → Bool}
theorem partT_len (r : Nat) : (partT ll bend isL r).length = ll.length := by simp [partT]
theorem partT_zero : partT ll bend isL 0 = restTab ll bend isL := by simp [partT, restTab]
theorem partT_getD {r i : Nat} (hi : i < ll.length) (hr : r ≤ i) : (partT ll bend isL r).getD i [] = restRow ll bend isL (ll.length - 1 - i) := by
  unfold partT
  rw [getD_map_range hi, if_pos hr]
theorem partT_below {r i : Nat} (hr : i < r) : (partT ll bend isL r).getD i [] = [] := by
  by_cases hi : i < ll.length
  · unfold partT
    rw [getD_map_range hi, if_neg (by omega)]
  · exact getD_ge (by rw [partT_len]; omega)
theorem partT_set {r : Nat} (hr : r < ll.length) : (partT ll bend isL (r + 1)).set r (restRow ll bend isL (ll.length - 1 - r)) = partT ll bend isL r := by
  refine ext_getD (d := []) (by simp [partT_len]) fun i hi => ?_
  simp only [List.length_set, partT_len] at hi
  rw [getD_set (by rw [partT_len]; exact hr)]
  split
  · rename_i h; subst h
    rw [partT_getD hi (Nat.le_refl _)]
  · rename_i h
    by_cases h2 : r + 1 ≤ i
    · rw [partT_getD hi h2, partT_getD hi (by omega)]
    · rw [partT_below (by omega), partT_below (by omega)]
theorem restRow_len (k : Nat) : (restRow ll bend isL k).length = (ll.getD 0 []).length := by simp [restRow]
theorem restRow_getD {k c : Nat} (hc : c < (ll.getD 0 []).length) : (restRow ll bend isL k).getD c 0 = restK ll bend isL k c := by
  unfold restRow
  rw [getD_map_range hc]
theorem partW_len (k i : Nat) : (partW ll bend isL k i).length = (ll.getD 0 []).length := by simp [partW]
theorem partW_zero (k : Nat) : partW ll bend isL k 0 = List.replicate (ll.getD 0 []).length 1000000 := by
  refine ext_getD (d := 0) (by simp [partW]) fun i hi => ?_
  rw [partW_len] at hi
  unfold partW
  rw [getD_map_range hi, if_neg (by omega), List.getD_eq_getElem?_getD, List.getElem?_replicate, if_pos hi]; rfl
theorem partW_getD {k i c : Nat} (hc : c < (ll.getD 0 []).length) : (partW ll bend isL k i).getD c 0 = if c < i then restK ll bend isL k c else 1000000 := by
  unfold partW
  rw [getD_map_range hc]
theorem partW_set {k i : Nat} (hi : i < (ll.getD 0 []).length) : (partW ll bend isL k i).set i (restK ll bend isL k i) = partW ll bend isL k (i + 1) := by
  refine ext_getD (d := 0) (by simp [partW]) fun c hc => ?_
  simp only [List.length_set, partW_len] at hc
  rw [getD_set (by rw [partW_len]; exact hi), partW_getD hc, partW_getD hc]
  split
  · rename_i h; subst h
    rw [if_pos (by omega)]
  · rename_i h
    by_cases h2 : c < i
    · rw [if_pos h2, if_pos (by omega)]
    · rw [if_neg h2, if_neg (by omega)]
theorem partW_all (k : Nat) : partW ll bend isL k (ll.getD 0 []).length = restRow ll bend isL k := by
  refine ext_getD (d := 0) (by simp [partW, restRow]) fun c hc => ?_
  rw [partW_len] at hc
  rw [partW_getD hc, if_pos hc, restRow_getD hc]
end
end Go.Lq

namespace Go.Lq
open Go
open Go.Proofs

theorem partT_top {ll : List (List Int)} {bend : Int} {isL : Nat → Bool} : partT ll bend isL ll.length = List.replicate ll.length [] := by
  refine ext_getD (d := []) (by simp [partT]) fun i hi => ?_
  rw [partT_len] at hi
  rw [partT_below hi, List.getD_eq_getElem?_getD, List.getElem?_replicate, if_pos hi]; rfl
theorem partW_same {ll : List (List Int)} {bend : Int} {isL : Nat → Bool} {k i : Nat} (h : restK ll bend isL k i = 1000000) : partW ll bend isL k (i + 1) = partW ll bend isL k i := by
  refine ext_getD (d := 0) (by simp [partW]) fun c hc => ?_
  rw [partW_len] at hc
  rw [partW_getD hc, partW_getD hc]
  by_cases h2 : c < i
  · rw [if_pos h2, if_pos (by omega)]
  · rw [if_neg h2]
    split
    · obtain rfl : c = i := by omega
      exact h
    · rfl
theorem partW_init {ll : List (List Int)} {bend : Int} {isL : Nat → Bool} {k i : Nat} (hi : i < (ll.getD 0 []).length) : (partW ll bend isL k i).set i 1000000 = partW ll bend isL k i := by
  refine ext_getD (d := 0) (by simp) fun c hc => ?_
  simp only [List.length_set, partW_len] at hc
  rw [getD_set (by rw [partW_len]; exact hi)]
  split
  · rename_i h; subst h
    rw [partW_getD hc, if_neg (Nat.lt_irrefl _)]
  · rfl
theorem OwnR.high {k : Nat} {H : AHeap} {ll : List (List Int)} {vs : List Value} (h : OwnR k H ll vs) {j : Nat} (hj : H.length ≤ j) : Aside k ll vs j :=
  ⟨by have := h.lt; omega, fun i hi hl => by have := h.idlt hi hl; omega⟩
theorem store_newS {H : AHeap} {a : Option Addr} {n c : Nat} {x : Value} : storeR 1 (.pointer (some ⟨H.length, 0, none⟩)) (.slice a n c) (H ++ [.cells true 0 [x]]) = some (undef, H ++ [.cells true 0 [.slice a n c]]) := by
  rw [store_at1 (at_new : (H ++ [AObj.cells true 0 [x]])[H.length]? = _) rfl rfl]
  simp
theorem store_2nd {H : AHeap} {x c d : Value} {n : Int} (hx : x = .int .i64 n) : storeR 1 (.pointer (some ⟨H.length, 0, none⟩)) x (H ++ [.cells true 0 [c]] ++ [.cells true 0 [d]]) = some (undef, H ++ [.cells true 0 [x]] ++ [.cells true 0 [d]]) := by
  subst hx
  rw [store_at1 (at_app (at_new : (H ++ [AObj.cells true 0 [c]])[H.length]? = _)) rfl rfl]
  simp
theorem store_2nd' {H : AHeap} {c c' d : Value} {n : Int} : storeR 1 (.pointer (some ⟨(H ++ [AObj.cells true 0 [c]]).length, 0, none⟩)) (.int .i64 n) (H ++ [.cells true 0 [c']] ++ [.cells true 0 [d]]) = some (undef, H ++ [.cells true 0 [c']] ++ [.cells true 0 [.int .i64 n]]) := by
  rw [show (H ++ [AObj.cells true 0 [c]]).length = (H ++ [AObj.cells true 0 [c']]).length by simp, store_at1 (at_new : (H ++ [AObj.cells true 0 [c']] ++ [AObj.cells true 0 [d]])[(H ++ [AObj.cells true 0 [c']]).length]? = _) rfl rfl]
  simp
theorem Far.below {L r : Nat} {ll : List (List Int)} {bend : Int} {isL : Nat → Bool} {vs : List Value} (h : ll.length ≤ r) : Far L (partT ll bend isL r) vs := fun i hi hl => by
  rw [partT_len] at hi
  rw [partT_below (by omega)] at hl
  exact absurd hl (by simp)

section
variable {H : AHeap}
set_option maxHeartbeats 2000000 in
theorem rest_c {ll : List (List Int)} {vs : List Value} {v : Value} {bend : Int} {fn : Fn} {cs ys : Array Value} {p : Int → Bool} (hx0 : Ext H0 H) (hL : Lists H ll vs v) (hg : gridErrL 40 12 ll = 0) (hb : 0 ≤ bend ∧ bend ≤ 1000)
    (hf : ∀ H', Ext H H' → AsksAt H' (.func fn cs ys) p) :
    ACall Go.Proofs.Tryd.prog 90 [.agg ⟨[v, .int .i64 bend]⟩, .func fn cs ys] H fun v1 H' => v1 = retLV H (restTab ll bend fun c : Nat => p c) ∧ H' = H ++ retLN H (restTab ll bend fun c : Nat => p c) := by
  refine ACall.tidyL (f := id) wraps_id ?_
  obtain ⟨w1, w2, w3, w4, w5, w6⟩ := gridErr_ok hg
  obtain ⟨isL, hisL⟩ : ∃ isL : Nat → Bool, isL = fun c : Nat => p c := ⟨_, rfl⟩
  have eL : ∀ i : Nat, p i = isL i := fun i => by rw [hisL]
  rw [← hisL]
  have hbf : ∀ {H' : AHeap}, boxR (.func fn cs ys) H' = some (.pointer (some ⟨H'.length, 0, none⟩), H' ++ [.cells true 0 [.func fn cs ys]]) := rfl
  (refine a90 ?_; simp only [n90, List.replicate, List.length_cons, List.length_nil, List.cons_append, List.nil_append])
  ((repeat (first | refine Go.Lq.q1 ?_ | refine Go.Lq.q2 ?_ | refine Go.Lq.q3 ?_ | refine Go.Lq.q4 ?_ | refine Go.Lq.q5 ?_ | refine Go.Lq.q6 ?_ | refine Go.Lq.q7 ?_ | refine Go.Lq.q8 ?_ | refine Go.Lq.q9 ?_ | refine Go.Lq.qa ?_ | refine Go.Lq.qb ?_ | refine Go.Lq.qc ?_ | refine Go.Lq.qd ?_ | refine Go.Lq.qe (by decide) ?_ | refine Go.Lq.qf ?_ | refine Go.Lq.qg ?_ | ((first | apply aops_all | apply adraw_all); (simp (disch := first | exact List.all_nil | omega | (simp only [go_sem]; done) | (simp only [ln, List.length_map]; omega) | (repeat' first | assumption | exact Ext.refl _ | refine Ext.app ?_ _)) only [go_sem, hL.box2, hbf]; rfl)))); (try ((first | apply aops_until | apply adraw_until); (simp (disch := first | exact List.all_nil | omega | (simp only [go_sem]; done) | (simp only [ln, List.length_map]; omega) | (repeat' first | assumption | exact Ext.refl _ | refine Ext.app ?_ _)) only [go_sem, hL.box2, hbf]; rfl))))
  (simp only [List.length_append, List.length_cons, List.length_nil, Nat.zero_add, Nat.add_assoc, Nat.reduceAdd])
  obtain ⟨G, hG⟩ : ∃ G, G = H ++ [AObj.cells true 0 [v, .int .i64 bend]] ++ [AObj.cells true 0 [.func fn cs ys]] := ⟨_, rfl⟩
  have q0 : G[H.length]? = some (.cells true 0 [v, .int .i64 bend]) := by rw [hG]; exact at_app at_new
  have q1 : G[H.length + 1]? = some (.cells true 0 [.func fn cs ys]) := by rw [hG]; simp
  have qx : Ext H G := by rw [hG]; exact ((Ext.refl H).app _).app _
  have ql : G.length = H.length + 2 := by rw [hG]; simp
  rw [← hG]
  clear hG
  have q2 : (G ++ [AObj.cells true 1 (List.replicate ll.length (.slice none 0 0))] ++ [AObj.cells true 0 [.slice (some ⟨G.length, 0, none⟩) ll.length ll.length]])[H.length]? = some (.cells true 0 [v, .int .i64 bend]) := at_app (at_app q0)
  ((repeat (first | refine Go.Lq.q1 ?_ | refine Go.Lq.q2 ?_ | refine Go.Lq.q3 ?_ | refine Go.Lq.q4 ?_ | refine Go.Lq.q5 ?_ | refine Go.Lq.q6 ?_ | refine Go.Lq.q7 ?_ | refine Go.Lq.q8 ?_ | refine Go.Lq.q9 ?_ | refine Go.Lq.qa ?_ | refine Go.Lq.qb ?_ | refine Go.Lq.qc ?_ | refine Go.Lq.qd ?_ | refine Go.Lq.qe (by decide) ?_ | refine Go.Lq.qf ?_ | refine Go.Lq.qg ?_ | ((first | apply aops_all | apply adraw_all); (simp (disch := first | exact List.all_nil | omega | (simp only [go_sem]; done) | (simp only [ln, List.length_map]; omega) | (repeat' first | assumption | exact Ext.refl _ | refine Ext.app ?_ _)) only [go_sem, hL.len, hL.idx, hL.load, load_at q0, load_at q2, store_newS, mkSlice_nils (n := ll.length) w1 (by omega)]; rfl)))); (try ((first | apply aops_until | apply adraw_until); (simp (disch := first | exact List.all_nil | omega | (simp only [go_sem]; done) | (simp only [ln, List.length_map]; omega) | (repeat' first | assumption | exact Ext.refl _ | refine Ext.app ?_ _)) only [go_sem, hL.len, hL.idx, hL.load, load_at q0, load_at q2, store_newS, mkSlice_nils (n := ll.length) w1 (by omega)]; rfl))))
  refine aops_call ((backward_c (hL.ext ((qx.app _).app _))).mono fun v1 H1 ⟨e1, e2⟩ => ?_)
  rw [show (G ++ [AObj.cells true 1 (List.replicate ll.length (.slice none 0 0))] ++ [AObj.cells true 0 [.slice (some ⟨G.length, 0, none⟩) ll.length ll.length]]).length = H.length + 4 by simp [ql]] at e1
  subst e1
  have g0 : H1[H.length]? = some (.cells true 0 [v, .int .i64 bend]) := by rw [e2]; exact at_app (at_app (at_app q0))
  have g1 : H1[H.length + 1]? = some (.cells true 0 [.func fn cs ys]) := by rw [e2]; exact at_app (at_app (at_app q1))
  have g3 : H1[H.length + 3]? = some (.cells true 0 [.slice (some ⟨H.length + 2, 0, none⟩) ll.length ll.length]) := by rw [e2, ← ql, show H.length + 3 = (G ++ [AObj.cells true 1 (List.replicate ll.length (.slice none 0 0))]).length by simp [ql]]; exact at_app at_new
  have g4 : H1[H.length + 4]? = some (.cells true 0 [v]) := by rw [e2, show H.length + 4 = (G ++ [AObj.cells true 1 (List.replicate ll.length (.slice none 0 0))] ++ [AObj.cells true 0 [.slice (some ⟨G.length, 0, none⟩) ll.length ll.length]]).length by simp [ql]]; exact at_new
  have xG : Ext H H1 := by rw [e2]; exact ((qx.app _).app _).app _
  have lG : H1.length = H.length + 5 := by rw [e2]; simp [ql]
  have ho : OwnR (H.length + 2) H1 (partT ll bend isL ll.length) (List.replicate ll.length (.slice none 0 0)) := by
    have := OwnR.nils (H := G) ll.length
    rw [ql] at this
    rw [partT_top, e2]
    exact (this.app _).app _
  clear e2
  (simp only [List.length_append, List.length_cons, List.length_nil, Nat.zero_add, Nat.add_assoc, Nat.reduceAdd])
  simp only [ql, Nat.add_assoc, Nat.reduceAdd]
  (repeat (first | refine Go.Lq.q1 ?_ | refine Go.Lq.q2 ?_ | refine Go.Lq.q3 ?_ | refine Go.Lq.q4 ?_ | refine Go.Lq.q5 ?_ | refine Go.Lq.q6 ?_ | refine Go.Lq.q7 ?_ | refine Go.Lq.q8 ?_ | refine Go.Lq.q9 ?_ | refine Go.Lq.qa ?_ | refine Go.Lq.qb ?_ | refine Go.Lq.qc ?_ | refine Go.Lq.qd ?_ | refine Go.Lq.qe (by decide) ?_ | refine Go.Lq.qf ?_ | refine Go.Lq.qg ?_))
  refine awp_rangeA mo rfl (fun l h => by cases h) (back1_c (idt := H.length + 4) (ll := ll) (vs := vs) (v := v) (by omega))
    (fun rest H' => ∃ r vs', rest = backV vs r ∧ r ≤ ll.length ∧ Keeps (H.length + 2) H1 H' ∧ OwnR (H.length + 2) H' (partT ll bend isL r) vs' ∧ Far H1.length (partT ll bend isL r) vs')
    (fun _ _ => False) ?_ (fun _ _ _ h => h.elim) ?_ ?_ ?_ ?_ (fun _ _ _ h => h.elim)
  · rintro rest H' c ⟨r, vs', h1, h2, h3, h4, h5⟩
    exact ⟨r, vs', h1, h2, h3.set (.inr (Nat.le_refl _)) _, h4.set (h5.aside (Nat.le_refl _) (by omega)) _, h5⟩
  · rintro rest H' ⟨r, vs', h1, h2, h3, h4, h5⟩
    exact ⟨h3.get g4 (by omega), hL.ext (h3.ext xG (by omega))⟩
  · intro N
    exact ⟨ll.length, _, rfl, Nat.le_refl _, Keeps.of_ext ((Ext.refl _).app N), ho.app N, Far.below (Nat.le_refl _)⟩
  · rintro a rest H2 ⟨r, vs', h1, h2, h3, h4, h5⟩ hlt
    match r, h1 with
    | r + 1, h1 =>
    obtain ⟨rfl, rfl⟩ := List.cons.inj h1
    refine ⟨rfl, fun R Rb hRl hR => ?_⟩
    simp only [assignParams, List.zip_cons_cons, List.zip_nil_left, List.zip_nil_right, List.foldl_cons, List.foldl_nil]
    ((repeat (first | refine Go.Lq.q1 ?_ | refine Go.Lq.q2 ?_ | refine Go.Lq.q3 ?_ | refine Go.Lq.q4 ?_ | refine Go.Lq.q5 ?_ | refine Go.Lq.q6 ?_ | refine Go.Lq.q7 ?_ | refine Go.Lq.q8 ?_ | refine Go.Lq.q9 ?_ | refine Go.Lq.qa ?_ | refine Go.Lq.qb ?_ | refine Go.Lq.qc ?_ | refine Go.Lq.qd ?_ | refine Go.Lq.qe (by decide) ?_ | refine Go.Lq.qf ?_ | refine Go.Lq.qg ?_ | ((first | apply aops_all | apply adraw_all); (simp (disch := first | exact List.all_nil | omega | (simp only [go_sem]; done) | (simp only [ln, List.length_map]; omega) | (repeat' first | assumption | exact Ext.refl _ | refine Ext.app ?_ _)) only [go_sem]; rfl)))); (try ((first | apply aops_until | apply adraw_until); (simp (disch := first | exact List.all_nil | omega | (simp only [go_sem]; done) | (simp only [ln, List.length_map]; omega) | (repeat' first | assumption | exact Ext.refl _ | refine Ext.app ?_ _)) only [go_sem]; rfl))))
    refine ⟨rfl, at_app hR, ?_⟩
    have hr : r < ll.length := by omega
    have hRb := get_set_self (d := Rb) (at_app (N := [AObj.cells true 0 [.int .i64 (r : Int)]]) hR)
    have kb : Keeps (H.length + 2) H1 ((H2 ++ [AObj.cells true 0 [.int .i64 (r : Int)]]).set H1.length Rb) := (h3.app _).set (.inr (Nat.le_refl _)) _
    have ob : OwnR (H.length + 2) ((H2 ++ [AObj.cells true 0 [.int .i64 (r : Int)]]).set H1.length Rb) (partT ll bend isL (r + 1)) vs' := (h4.app _).set (h5.aside (Nat.le_refl _) (by omega)) _
    have b6 : ((H2 ++ [AObj.cells true 0 [.int .i64 (r : Int)]]).set H1.length Rb)[H2.length]? = some (.cells true 0 [.int .i64 (r : Int)]) := by rw [List.getElem?_set_ne (by omega)]; exact at_new
    have lb : ((H2 ++ [AObj.cells true 0 [.int .i64 (r : Int)]]).set H1.length Rb).length = H2.length + 1 := by simp
    have as6 : Aside (H.length + 2) (partT ll bend isL (r + 1)) vs' H2.length := h4.high (Nat.le_refl _)
    generalize ((H2 ++ [AObj.cells true 0 [.int .i64 (r : Int)]]).set H1.length Rb : AHeap) = Hb at hRb kb ob b6 lb
    have xb : Ext H Hb := kb.ext xG (by omega)
    have oc := ob.app [AObj.cells true 1 [.int .i64 1000000]]
    have hLT := oc.lists (n := ll.length) (c := ll.length) (partT_len _).symm
    have hTl := partT_len (ll := ll) (bend := bend) (isL := isL) (r + 1)
    obtain ⟨vs2, H3, s1, o3, f3, k3', a3⟩ := oc.newRow (i := r) (L := H1.length) (by omega) (List.replicate (ll.getD 0 []).length 1000000) (by simp; omega) h5
    ((repeat (first | refine Go.Lq.q1 ?_ | refine Go.Lq.q2 ?_ | refine Go.Lq.q3 ?_ | refine Go.Lq.q4 ?_ | refine Go.Lq.q5 ?_ | refine Go.Lq.q6 ?_ | refine Go.Lq.q7 ?_ | refine Go.Lq.q8 ?_ | refine Go.Lq.q9 ?_ | refine Go.Lq.qa ?_ | refine Go.Lq.qb ?_ | refine Go.Lq.qc ?_ | refine Go.Lq.qd ?_ | refine Go.Lq.qe (by decide) ?_ | refine Go.Lq.qf ?_ | refine Go.Lq.qg ?_ | ((first | apply aops_all | apply adraw_all); (simp (disch := first | exact List.all_nil | omega | (simp only [go_sem]; done) | (simp only [ln, List.length_map]; omega) | (repeat' first | assumption | exact Ext.refl _ | refine Ext.app ?_ _)) only [go_sem, load_at (kb.get g3 (by omega)), load_at b6, loadN_at (kb.get g0 (by omega))]; rfl)))); (try ((first | apply aops_until | apply adraw_until); (simp (disch := first | exact List.all_nil | omega | (simp only [go_sem]; done) | (simp only [ln, List.length_map]; omega) | (repeat' first | assumption | exact Ext.refl _ | refine Ext.app ?_ _)) only [go_sem, load_at (kb.get g3 (by omega)), load_at b6, loadN_at (kb.get g0 (by omega))]; rfl))))
    refine adraw_free (fun G ⟨N, hG⟩ => columns_c (hL.ext (xb.trans ⟨N, hG⟩)) w1) ?_
    ((repeat (first | refine Go.Lq.q1 ?_ | refine Go.Lq.q2 ?_ | refine Go.Lq.q3 ?_ | refine Go.Lq.q4 ?_ | refine Go.Lq.q5 ?_ | refine Go.Lq.q6 ?_ | refine Go.Lq.q7 ?_ | refine Go.Lq.q8 ?_ | refine Go.Lq.q9 ?_ | refine Go.Lq.qa ?_ | refine Go.Lq.qb ?_ | refine Go.Lq.qc ?_ | refine Go.Lq.qd ?_ | refine Go.Lq.qe (by decide) ?_ | refine Go.Lq.qf ?_ | refine Go.Lq.qg ?_ | ((first | apply aops_all | apply adraw_all); (simp (disch := first | exact List.all_nil | omega | (simp only [go_sem]; done) | (simp only [ln, List.length_map]; omega) | (repeat' first | assumption | exact Ext.refl _ | refine Ext.app ?_ _)) only [go_sem]; rfl)))); (try ((first | apply aops_until | apply adraw_until); (simp (disch := first | exact List.all_nil | omega | (simp only [go_sem]; done) | (simp only [ln, List.length_map]; omega) | (repeat' first | assumption | exact Ext.refl _ | refine Ext.app ?_ _)) only [go_sem]; rfl))))
    refine adraw_call (repeat_c (f := 1000000) (n := (ll.getD 0 []).length) ((hx0.trans xb).app _) (Ints.last (l := [1000000]) 1) w2 (by omega)) ?_
    have hrowb := (hL.ext xb).row hr
    ((repeat (first | refine Go.Lq.q1 ?_ | refine Go.Lq.q2 ?_ | refine Go.Lq.q3 ?_ | refine Go.Lq.q4 ?_ | refine Go.Lq.q5 ?_ | refine Go.Lq.q6 ?_ | refine Go.Lq.q7 ?_ | refine Go.Lq.q8 ?_ | refine Go.Lq.q9 ?_ | refine Go.Lq.qa ?_ | refine Go.Lq.qb ?_ | refine Go.Lq.qc ?_ | refine Go.Lq.qd ?_ | refine Go.Lq.qe (by decide) ?_ | refine Go.Lq.qf ?_ | refine Go.Lq.qg ?_ | ((first | apply aops_all | apply adraw_all); (simp (disch := first | exact List.all_nil | omega | (simp only [go_sem]; done) | (simp only [ln, List.length_map]; omega) | (repeat' first | assumption | exact Ext.refl _ | refine Ext.app ?_ _)) only [go_sem, hLT.len, hLT.idx, hLT.load, hrowb.len, hrowb.idx, hrowb.load, s1]; rfl)))); (try ((first | apply aops_until | apply adraw_until); (simp (disch := first | exact List.all_nil | omega | (simp only [go_sem]; done) | (simp only [ln, List.length_map]; omega) | (repeat' first | assumption | exact Ext.refl _ | refine Ext.app ?_ _)) only [go_sem, hLT.len, hLT.idx, hLT.load, hrowb.len, hrowb.idx, hrowb.load, s1]; rfl))))
    have as6' := a3 H2.length (by simp; omega) as6
    rw [← partW_zero (ll := ll) (bend := bend) (isL := isL) (ll.length - 1 - r)] at o3 f3 as6'
    have k3 : Keeps (H.length + 2) H1 H3 := kb.kp (((Kp.refl _ _).app _).trans k3') (fun _ _ h => h)
    have r3 : H3[H1.length]? = some Rb := k3'.2 _ _ (by simp; omega) (at_app hRb)
    have b63 : H3[H2.length]? = some (.cells true 0 [.int .i64 (r : Int)]) := k3'.2 _ _ (by simp; omega) (at_app b6)
    clear s1 k3' a3
    have fW : ∀ l : List Int, l.length = (ll.getD 0 []).length → Far H1.length ((partT ll bend isL (r + 1)).set r l) vs2 := fun l hl => by
      have := f3.set (i := r) (l := l) (by rw [getD_set_eq (by omega), partW_len]; exact hl)
      rwa [List.set_set] at this
    have aW : ∀ (l l' : List Int) (j : Nat), l.length = (ll.getD 0 []).length → l'.length = (ll.getD 0 []).length → Aside (H.length + 2) ((partT ll bend isL (r + 1)).set r l) vs2 j → Aside (H.length + 2) ((partT ll bend isL (r + 1)).set r l') vs2 j := fun l l' j hl hl' h => by
      have := aside_set (i := r) (l := l') (by rw [getD_set_eq (by omega), hl, hl']) h
      rwa [List.set_set] at this
    refine awp_loop_n [false, false, true, true, false, true, true, false, false, false, false, false, false, false, false, false, false, false, false, false, false, false, false, false, false, false, false, false, false, true, true, true, false, false, false, false, false, false, false, false, false, false, false, false, false, false, false, false, false, false, false, false, false, false, false, false, false, false, false, false, false, false, false, false, false, false, false, false, false, false, false, false, false, false, false, false, false, false, false, false, false, false, false, false, false] (ll.getD 0 []).length (fun i e H' => e = [junk, junk, .pointer (some ⟨H.length, 0, none⟩), .pointer (some ⟨H.length + 1, 0, none⟩), junk, .pointer (some ⟨H.length + 3, 0, none⟩), .pointer (some ⟨H2.length, 0, none⟩), junk, junk, junk, junk, junk, junk, junk, junk, junk, junk, junk, junk, junk, junk, junk, junk, junk, junk, junk, junk, junk, junk, vs.getD r undef, .int .i64 ((ll.getD 0 []).length : Nat), .int .i64 i, junk, junk, junk, junk, junk, junk, junk, junk, junk, junk, junk, junk, junk, junk, junk, junk, junk, junk, junk, junk, junk, junk, junk, junk, junk, junk, junk, junk, junk, junk, junk, junk, junk, junk, junk, junk, junk, junk, junk, junk, junk, junk, junk, junk, junk, junk, junk, junk, junk, junk, junk, junk, junk] ∧
      Kp (Aside (H.length + 2) ((partT ll bend isL (r + 1)).set r (partW ll bend isL (ll.length - 1 - r) 0)) vs2) H3 H' ∧ OwnR (H.length + 2) H' ((partT ll bend isL (r + 1)).set r (partW ll bend isL (ll.length - 1 - r) i)) vs2) ?_ ?_
    · exact ⟨by rw [← w5 r hr]; simp [forget], Kp.refl _ _, o3⟩
    rintro i e H4 hi ⟨rfl, kp4, o4⟩
    have K4 : Keeps (H.length + 2) H1 H4 := k3.kp kp4 (fun i hi hne => f3.aside (by omega) hne)
    have x4 : Ext H H4 := K4.ext xG (by omega)
    have hrow4 := (hL.ext x4).row hr
    have b64 := kp4.2 _ _ as6' b63
    have r4 := kp4.2 _ _ (f3.aside (Nat.le_refl _) (by omega)) r3
    have b04 := K4.get g0 (by omega)
    have b14 := K4.get g1 (by omega)
    have b34 := K4.get g3 (by omega)
    have w5r := w5 r hr
    ((repeat (first | refine Go.Lq.q1 ?_ | refine Go.Lq.q2 ?_ | refine Go.Lq.q3 ?_ | refine Go.Lq.q4 ?_ | refine Go.Lq.q5 ?_ | refine Go.Lq.q6 ?_ | refine Go.Lq.q7 ?_ | refine Go.Lq.q8 ?_ | refine Go.Lq.q9 ?_ | refine Go.Lq.qa ?_ | refine Go.Lq.qb ?_ | refine Go.Lq.qc ?_ | refine Go.Lq.qd ?_ | refine Go.Lq.qe (by decide) ?_ | refine Go.Lq.qf ?_ | refine Go.Lq.qg ?_ | ((first | apply aops_all | apply adraw_all); (simp (disch := first | exact List.all_nil | omega | (simp only [go_sem]; done) | (simp only [ln, List.length_map]; omega) | (repeat' first | assumption | exact Ext.refl _ | refine Ext.app ?_ _)) only [go_sem]; rfl)))); (try ((first | apply aops_until | apply adraw_until); (simp (disch := first | exact List.all_nil | omega | (simp only [go_sem]; done) | (simp only [ln, List.length_map]; omega) | (repeat' first | assumption | exact Ext.refl _ | refine Ext.app ?_ _)) only [go_sem]; rfl))))
    refine cond_p rfl (fun hlt2 => ?_) (fun hge => ?_)
    rotate_left 1
    · obtain rfl : i = (ll.getD 0 []).length := by omega
      rw [partW_all, partT_set hr] at o4
      ((repeat (first | refine Go.Lq.q1 ?_ | refine Go.Lq.q2 ?_ | refine Go.Lq.q3 ?_ | refine Go.Lq.q4 ?_ | refine Go.Lq.q5 ?_ | refine Go.Lq.q6 ?_ | refine Go.Lq.q7 ?_ | refine Go.Lq.q8 ?_ | refine Go.Lq.q9 ?_ | refine Go.Lq.qa ?_ | refine Go.Lq.qb ?_ | refine Go.Lq.qc ?_ | refine Go.Lq.qd ?_ | refine Go.Lq.qe (by decide) ?_ | refine Go.Lq.qf ?_ | refine Go.Lq.qg ?_ | ((first | apply aops_all | apply adraw_all); (simp (disch := first | exact List.all_nil | omega | (simp only [go_sem]; done) | (simp only [ln, List.length_map]; omega) | (repeat' first | assumption | exact Ext.refl _ | refine Ext.app ?_ _)) only [go_sem]; rfl)))); (try ((first | apply aops_until | apply adraw_until); (simp (disch := first | exact List.all_nil | omega | (simp only [go_sem]; done) | (simp only [ln, List.length_map]; omega) | (repeat' first | assumption | exact Ext.refl _ | refine Ext.app ?_ _)) only [go_sem]; rfl))))
      refine rounded_n r4 ⟨r, vs2, rfl, by omega, K4, o4, ?_⟩
      have := fW (restRow ll bend isL (ll.length - 1 - r)) (restRow_len _)
      rwa [partT_set hr] at this
    have hi' : i < (ll.getD 0 []).length := by omega
    ((repeat (first | refine Go.Lq.q1 ?_ | refine Go.Lq.q2 ?_ | refine Go.Lq.q3 ?_ | refine Go.Lq.q4 ?_ | refine Go.Lq.q5 ?_ | refine Go.Lq.q6 ?_ | refine Go.Lq.q8 ?_ | refine Go.Lq.q9 ?_ | refine Go.Lq.qa ?_ | refine Go.Lq.qb ?_ | refine Go.Lq.qc ?_ | refine Go.Lq.qd ?_ | refine Go.Lq.qe (by decide) ?_ | refine Go.Lq.qf ?_ | refine Go.Lq.qg ?_ | (apply aops_all; (simp (disch := first | exact List.all_nil | omega | (simp only [go_sem]; done) | (simp only [ln, List.length_map]; omega) | (repeat' first | assumption | exact Ext.refl _ | refine Ext.app ?_ _)) only [go_sem, hrow4.len, hrow4.idx, hrow4.load, store_2nd (n := (i : Int)) rfl, store_2nd']; rfl)))); (try (apply aops_until; (simp (disch := first | exact List.all_nil | omega | (simp only [go_sem]; done) | (simp only [ln, List.length_map]; omega) | (repeat' first | assumption | exact Ext.refl _ | refine Ext.app ?_ _)) only [go_sem, hrow4.len, hrow4.idx, hrow4.load, store_2nd (n := (i : Int)) rfl, store_2nd']; rfl))))
    obtain ⟨val, hval⟩ : ∃ val, val = (ll.getD r []).getD i 0 := ⟨_, rfl⟩
    have hvb := val_bound w6 r i
    rw [← hval] at hvb
    rw [← hval]
    obtain ⟨H5, hH5⟩ : ∃ H5, H5 = H4 ++ [AObj.cells true 0 [.int .i64 (i : Int)]] ++ [AObj.cells true 0 [.int .i64 val]] := ⟨_, rfl⟩
    have x45 : Ext H4 H5 := by rw [hH5]; exact ((Ext.refl _).app _).app _
    have c8 : H5[H4.length]? = some (.cells true 0 [.int .i64 (i : Int)]) := by rw [hH5]; exact at_app at_new
    have c9 : H5[H4.length + 1]? = some (.cells true 0 [.int .i64 val]) := by rw [hH5]; simp
    have l5 : H5.length = H4.length + 2 := by rw [hH5]; simp
    have o5 : OwnR (H.length + 2) H5 ((partT ll bend isL (r + 1)).set r (partW ll bend isL (ll.length - 1 - r) i)) vs2 := by rw [hH5]; exact (o4.app _).app _
    (simp only [List.length_append, List.length_cons, List.length_nil, Nat.zero_add, Nat.add_assoc, Nat.reduceAdd])
    rw [← hH5]
    clear hH5
    have kp5 : Kp (Aside (H.length + 2) ((partT ll bend isL (r + 1)).set r (partW ll bend isL (ll.length - 1 - r) 0)) vs2) H3 H5 := by
      obtain ⟨N, rfl⟩ := x45; exact kp4.app N
    have x5 : Ext H H5 := x4.trans x45
    have hL5 := hL.ext x5
    ((repeat (first | refine Go.Lq.q1 ?_ | refine Go.Lq.q2 ?_ | refine Go.Lq.q3 ?_ | refine Go.Lq.q4 ?_ | refine Go.Lq.q5 ?_ | refine Go.Lq.q6 ?_ | refine Go.Lq.q7 ?_ | refine Go.Lq.q8 ?_ | refine Go.Lq.q9 ?_ | refine Go.Lq.qa ?_ | refine Go.Lq.qb ?_ | refine Go.Lq.qc ?_ | refine Go.Lq.qd ?_ | refine Go.Lq.qe (by decide) ?_ | refine Go.Lq.qf ?_ | refine Go.Lq.qg ?_ | ((first | apply aops_all | apply adraw_all); (simp (disch := first | exact List.all_nil | omega | (simp only [go_sem]; done) | (simp only [ln, List.length_map]; omega) | (repeat' first | assumption | exact Ext.refl _ | refine Ext.app ?_ _)) only [go_sem, load_at (x45.cell b64), loadN_at (x45.cell b04)]; rfl)))); (try ((first | apply aops_until | apply adraw_until); (simp (disch := first | exact List.all_nil | omega | (simp only [go_sem]; done) | (simp only [ln, List.length_map]; omega) | (repeat' first | assumption | exact Ext.refl _ | refine Ext.app ?_ _)) only [go_sem, load_at (x45.cell b64), loadN_at (x45.cell b04)]; rfl))))
    refine adraw_call (N := []) (firstD (last_c hL5 (by omega))) ?_
    rw [List.append_nil]
    ((repeat (first | refine Go.Lq.q1 ?_ | refine Go.Lq.q2 ?_ | refine Go.Lq.q3 ?_ | refine Go.Lq.q4 ?_ | refine Go.Lq.q5 ?_ | refine Go.Lq.q6 ?_ | refine Go.Lq.q7 ?_ | refine Go.Lq.q8 ?_ | refine Go.Lq.q9 ?_ | refine Go.Lq.qa ?_ | refine Go.Lq.qb ?_ | refine Go.Lq.qc ?_ | refine Go.Lq.qd ?_ | refine Go.Lq.qe (by decide) ?_ | refine Go.Lq.qf ?_ | refine Go.Lq.qg ?_ | ((first | apply aops_all | apply adraw_all); (simp (disch := first | exact List.all_nil | omega | (simp only [go_sem]; done) | (simp only [ln, List.length_map]; omega) | (repeat' first | assumption | exact Ext.refl _ | refine Ext.app ?_ _)) only [go_sem]; rfl)))); (try ((first | apply aops_until | apply adraw_until); (simp (disch := first | exact List.all_nil | omega | (simp only [go_sem]; done) | (simp only [ln, List.length_map]; omega) | (repeat' first | assumption | exact Ext.refl _ | refine Ext.app ?_ _)) only [go_sem]; rfl))))
    have hlw : ∀ m : Int, ((partW ll bend isL (ll.length - 1 - r) i).set i m).length = (ll.getD 0 []).length := fun m => by rw [List.length_set, partW_len]
    refine cond_p rfl (fun hl => ?_) (fun hl => ?_)
    · have hk0 : ll.length - 1 - r = 0 := by omega
      have erest : restK ll bend isL 0 i = if isL i = true then val else 1000000 := by
        unfold restK vAt
        rw [show ll.length - 1 = r by omega, hval]
      ((repeat (first | refine Go.Lq.q1 ?_ | refine Go.Lq.q2 ?_ | refine Go.Lq.q3 ?_ | refine Go.Lq.q4 ?_ | refine Go.Lq.q5 ?_ | refine Go.Lq.q6 ?_ | refine Go.Lq.q7 ?_ | refine Go.Lq.q8 ?_ | refine Go.Lq.q9 ?_ | refine Go.Lq.qa ?_ | refine Go.Lq.qb ?_ | refine Go.Lq.qc ?_ | refine Go.Lq.qd ?_ | refine Go.Lq.qe (by decide) ?_ | refine Go.Lq.qf ?_ | refine Go.Lq.qg ?_ | ((first | apply aops_all | apply adraw_all); (simp (disch := first | exact List.all_nil | omega | (simp only [go_sem]; done) | (simp only [ln, List.length_map]; omega) | (repeat' first | assumption | exact Ext.refl _ | refine Ext.app ?_ _)) only [go_sem, load_at (x45.cell b14), load_at c8]; rfl)))); (try ((first | apply aops_until | apply adraw_until); (simp (disch := first | exact List.all_nil | omega | (simp only [go_sem]; done) | (simp only [ln, List.length_map]; omega) | (repeat' first | assumption | exact Ext.refl _ | refine Ext.app ?_ _)) only [go_sem, load_at (x45.cell b14), load_at c8]; rfl))))
      refine aops_call ((hf H5 x5 i).mono fun v1 H6 ⟨e1, e2⟩ => ?_)
      subst e1
      subst e2
      rw [eL]
      cases hq : isL i with
      | true =>
        rw [hq, if_pos rfl] at erest
        have hg5 : ((partT ll bend isL (r + 1)).set r (partW ll bend isL (ll.length - 1 - r) i)).getD r [] = partW ll bend isL (ll.length - 1 - r) i := getD_set_eq (by omega)
        obtain ⟨H7, s7, o7, kp7⟩ := o5.setCell3 (i := r) (c := i) (by simp; omega) (by rw [hg5, partW_len]; exact hi') val
        have hLT5 := o5.lists (n := ll.length) (c := ll.length) (by simp; omega)
        have hTl5 : ((partT ll bend isL (r + 1)).set r (partW ll bend isL (ll.length - 1 - r) i)).length = ll.length := by simp; omega
        have hRr := hLT5.row (k := r) (by omega)
        rw [hg5] at hRr o7
        have hpl := partW_len (ll := ll) (bend := bend) (isL := isL) (ll.length - 1 - r) i
        (repeat (first | refine Go.Lq.q1 ?_ | refine Go.Lq.q2 ?_ | refine Go.Lq.q3 ?_ | refine Go.Lq.q4 ?_ | refine Go.Lq.q5 ?_ | refine Go.Lq.q6 ?_ | refine Go.Lq.q7 ?_ | refine Go.Lq.q8 ?_ | refine Go.Lq.q9 ?_ | refine Go.Lq.qa ?_ | refine Go.Lq.qb ?_ | refine Go.Lq.qc ?_ | refine Go.Lq.qd ?_ | refine Go.Lq.qe (by decide) ?_ | refine Go.Lq.qf ?_ | refine Go.Lq.qg ?_))
        refine cond_t rfl ?_
        ((repeat (first | refine Go.Lq.q1 ?_ | refine Go.Lq.q2 ?_ | refine Go.Lq.q3 ?_ | refine Go.Lq.q4 ?_ | refine Go.Lq.q5 ?_ | refine Go.Lq.q6 ?_ | refine Go.Lq.q7 ?_ | refine Go.Lq.q8 ?_ | refine Go.Lq.q9 ?_ | refine Go.Lq.qa ?_ | refine Go.Lq.qb ?_ | refine Go.Lq.qc ?_ | refine Go.Lq.qd ?_ | refine Go.Lq.qe (by decide) ?_ | refine Go.Lq.qf ?_ | refine Go.Lq.qg ?_ | ((first | apply aops_all | apply adraw_all); (simp (disch := first | exact List.all_nil | omega | (simp only [go_sem]; done) | (simp only [ln, List.length_map]; omega) | (repeat' first | assumption | exact Ext.refl _ | refine Ext.app ?_ _)) only [go_sem, hLT5.len, hLT5.idx, hLT5.load, hRr.len, hRr.idx, hRr.load, load_at (x45.cell b34), load_at (x45.cell b64), load_at c8, load_at c9, s7]; rfl)))); (try ((first | apply aops_until | apply adraw_until); (simp (disch := first | exact List.all_nil | omega | (simp only [go_sem]; done) | (simp only [ln, List.length_map]; omega) | (repeat' first | assumption | exact Ext.refl _ | refine Ext.app ?_ _)) only [go_sem, hLT5.len, hLT5.idx, hLT5.load, hRr.len, hRr.idx, hRr.load, load_at (x45.cell b34), load_at (x45.cell b64), load_at c8, load_at c9, s7]; rfl))))
        rw [List.set_set, hk0, ← erest, partW_set hi'] at o7
        refine ⟨by omega, by simp [forget], kp5.trans (kp7.mono fun j _ h => aW _ _ j (partW_len _ _) (partW_len _ _) h), by rw [hk0]; exact o7⟩
      | false =>
        rw [hq, if_neg (by decide)] at erest
        (repeat (first | refine Go.Lq.q1 ?_ | refine Go.Lq.q2 ?_ | refine Go.Lq.q3 ?_ | refine Go.Lq.q4 ?_ | refine Go.Lq.q5 ?_ | refine Go.Lq.q6 ?_ | refine Go.Lq.q7 ?_ | refine Go.Lq.q8 ?_ | refine Go.Lq.q9 ?_ | refine Go.Lq.qa ?_ | refine Go.Lq.qb ?_ | refine Go.Lq.qc ?_ | refine Go.Lq.qd ?_ | refine Go.Lq.qe (by decide) ?_ | refine Go.Lq.qf ?_ | refine Go.Lq.qg ?_))
        refine cond_f rfl ?_
        ((repeat (first | refine Go.Lq.q1 ?_ | refine Go.Lq.q2 ?_ | refine Go.Lq.q3 ?_ | refine Go.Lq.q4 ?_ | refine Go.Lq.q5 ?_ | refine Go.Lq.q6 ?_ | refine Go.Lq.q7 ?_ | refine Go.Lq.q8 ?_ | refine Go.Lq.q9 ?_ | refine Go.Lq.qa ?_ | refine Go.Lq.qb ?_ | refine Go.Lq.qc ?_ | refine Go.Lq.qd ?_ | refine Go.Lq.qe (by decide) ?_ | refine Go.Lq.qf ?_ | refine Go.Lq.qg ?_ | ((first | apply aops_all | apply adraw_all); (simp (disch := first | exact List.all_nil | omega | (simp only [go_sem]; done) | (simp only [ln, List.length_map]; omega) | (repeat' first | assumption | exact Ext.refl _ | refine Ext.app ?_ _)) only [go_sem]; rfl)))); (try ((first | apply aops_until | apply adraw_until); (simp (disch := first | exact List.all_nil | omega | (simp only [go_sem]; done) | (simp only [ln, List.length_map]; omega) | (repeat' first | assumption | exact Ext.refl _ | refine Ext.app ?_ _)) only [go_sem]; rfl))))
        refine ⟨by omega, by simp [forget], kp5, ?_⟩
        rw [hk0, partW_same erest, ← hk0]
        exact o5
    obtain ⟨k', hk'⟩ : ∃ k', ll.length - 1 - r = k' + 1 := ⟨ll.length - 2 - r, by omega⟩
    have er : ll.length - 2 - k' = r := by omega
    ((repeat (first | refine Go.Lq.q1 ?_ | refine Go.Lq.q2 ?_ | refine Go.Lq.q3 ?_ | refine Go.Lq.q4 ?_ | refine Go.Lq.q5 ?_ | refine Go.Lq.q6 ?_ | refine Go.Lq.q7 ?_ | refine Go.Lq.q8 ?_ | refine Go.Lq.q9 ?_ | refine Go.Lq.qa ?_ | refine Go.Lq.qb ?_ | refine Go.Lq.qc ?_ | refine Go.Lq.qd ?_ | refine Go.Lq.qe (by decide) ?_ | refine Go.Lq.qf ?_ | refine Go.Lq.qg ?_ | ((first | apply aops_all | apply adraw_all); (simp (disch := first | exact List.all_nil | omega | (simp only [go_sem]; done) | (simp only [ln, List.length_map]; omega) | (repeat' first | assumption | exact Ext.refl _ | refine Ext.app ?_ _)) only [go_sem, loadN_at (x45.cell b04), load_at c8]; rfl)))); (try ((first | apply aops_until | apply adraw_until); (simp (disch := first | exact List.all_nil | omega | (simp only [go_sem]; done) | (simp only [ln, List.length_map]; omega) | (repeat' first | assumption | exact Ext.refl _ | refine Ext.app ?_ _)) only [go_sem, loadN_at (x45.cell b04), load_at c8]; rfl))))
    refine aops_call ((neighbors_c (c := (i : Int)) hL5).mono fun v1 H6 ⟨e1, e2⟩ => ?_)
    subst e1
    have n0 : H6[H5.length]? = some (.cells true 0 [v, .int .i64 bend]) := by rw [e2]; exact at_app at_new
    have n1 : H6[H5.length + 1]? = some (.cells true 0 [.int .i64 (i : Int)]) := by rw [e2]; simp
    have x56 : Ext H5 H6 := by rw [e2]; exact ((Ext.refl _).app _).app _
    have l6 : H6.length = H5.length + 2 := by rw [e2]; simp
    have o6 : OwnR (H.length + 2) H6 ((partT ll bend isL (r + 1)).set r (partW ll bend isL (ll.length - 1 - r) i)) vs2 := by rw [e2]; exact (o5.app _).app _
    clear e2
    have kp6 : Kp (Aside (H.length + 2) ((partT ll bend isL (r + 1)).set r (partW ll bend isL (ll.length - 1 - r) 0)) vs2) H3 H6 := by
      obtain ⟨N, rfl⟩ := x56; exact kp5.app N
    have K6 : Keeps (H.length + 2) H1 H6 := K4.trans (x45.trans x56)
    have b66 := x56.cell (x45.cell b64)
    have r6 := x56.cell (x45.cell r4)
    have as6W : Aside (H.length + 2) ((partT ll bend isL (r + 1)).set r (partW ll bend isL (ll.length - 1 - r) i)) vs2 H2.length := aW _ _ _ (partW_len _ _) (partW_len _ _) as6'
    have fWi := fW (partW ll bend isL (ll.length - 1 - r) i) (partW_len _ _)
    have low : ∀ {H' : AHeap}, Kp (Aside (H.length + 2) ((partT ll bend isL (r + 1)).set r (partW ll bend isL (ll.length - 1 - r) i)) vs2) H6 H' → Keeps (H.length + 2) H1 H' := fun h => K6.kp h fun i hi hne => fWi.aside (by omega) hne
    have erest : restK ll bend isL (k' + 1) i = minGo (fun d => vAt ll (ll.length - 2 - k') i + bendI bend (i : Int) (d : Int) + restK ll bend isL k' d) 1000000 (nbL (ll.getD 0 []).length i) := rfl
    rw [er] at erest
    have ev : vAt ll r i = val := by rw [hval]; rfl
    rw [ev] at erest
    (repeat (first | refine Go.Lq.q1 ?_ | refine Go.Lq.q2 ?_ | refine Go.Lq.q3 ?_ | refine Go.Lq.q4 ?_ | refine Go.Lq.q5 ?_ | refine Go.Lq.q6 ?_ | refine Go.Lq.q7 ?_ | refine Go.Lq.q8 ?_ | refine Go.Lq.q9 ?_ | refine Go.Lq.qa ?_ | refine Go.Lq.qb ?_ | refine Go.Lq.qc ?_ | refine Go.Lq.qd ?_ | refine Go.Lq.qe (by decide) ?_ | refine Go.Lq.qf ?_ | refine Go.Lq.qg ?_))
    refine awp_rangeA mo rfl (fun l h => by
        obtain rfl := Option.some.inj h
        obtain ⟨q, rfl⟩ := hRl
        exact ⟨q, r6⟩) (nb1_c (idc := H5.length + 1) (idt := H5.length) (c := i) (ll := ll) (vs := vs) (v := v) (bend := bend) w1 (by omega) hi')
      (fun rest H' => ∃ m tl, rest = nbV tl ∧ Kp (Aside (H.length + 2) ((partT ll bend isL (r + 1)).set r (partW ll bend isL (ll.length - 1 - r) i)) vs2) H6 H' ∧ OwnR (H.length + 2) H' ((partT ll bend isL (r + 1)).set r ((partW ll bend isL (ll.length - 1 - r) i).set i m)) vs2 ∧
        minGo (fun d => val + bendI bend (i : Int) (d : Int) + restK ll bend isL k' d) m tl = restK ll bend isL (k' + 1) i ∧ (0 ≤ m ∧ m ≤ 1000000) ∧ ∀ d ∈ tl, d < (ll.getD 0 []).length)
      (fun _ _ => False) ?_ (fun _ _ _ h => h.elim) ?_ ?_ ?_ ?_ (fun _ _ _ h => h.elim)
    · rintro rest H' c' ⟨m, tl, j1, j2, j3, j4⟩
      exact ⟨m, tl, j1, j2.set (.inr (Nat.le_refl _)) _, j3.set (aW _ _ _ (partW_len _ _) (hlw m) (o6.high (Nat.le_refl _))) _, j4⟩
    · rintro rest H' ⟨m, tl, j1, j2, j3, j4⟩
      exact ⟨j2.2 _ _ (o4.high (by omega)) n1, j2.2 _ _ (o4.high (by omega)) n0, hL.ext ((low j2).ext xG (by omega))⟩
    · intro N
      refine ⟨1000000, nbL (ll.getD 0 []).length i, rfl, (Kp.refl _ _).app _, ?_, erest.symm, by omega, fun d hd => ((nbL_mem hi').1 hd).1⟩
      rw [partW_init hi']
      exact o6.app N
    · rintro a rest H7 ⟨m, tl, j1, j2, j3, j4, j5, j6⟩ hlt7
      match tl, j1 with
      | d :: tl, j1 =>
      obtain ⟨rfl, rfl⟩ := List.cons.inj j1
      refine ⟨rfl, fun R2 Rb2 _ hR2 => ?_⟩
      simp only [assignParams, List.zip_cons_cons, List.zip_nil_left, List.foldl_cons, List.foldl_nil]
      ((repeat (first | refine Go.Lq.q1 ?_ | refine Go.Lq.q2 ?_ | refine Go.Lq.q3 ?_ | refine Go.Lq.q4 ?_ | refine Go.Lq.q5 ?_ | refine Go.Lq.q6 ?_ | refine Go.Lq.q7 ?_ | refine Go.Lq.q8 ?_ | refine Go.Lq.q9 ?_ | refine Go.Lq.qa ?_ | refine Go.Lq.qb ?_ | refine Go.Lq.qc ?_ | refine Go.Lq.qd ?_ | refine Go.Lq.qe (by decide) ?_ | refine Go.Lq.qf ?_ | refine Go.Lq.qg ?_ | ((first | apply aops_all | apply adraw_all); (simp (disch := first | exact List.all_nil | omega | (simp only [go_sem]; done) | (simp only [ln, List.length_map]; omega) | (repeat' first | assumption | exact Ext.refl _ | refine Ext.app ?_ _)) only [go_sem]; rfl)))); (try ((first | apply aops_until | apply adraw_until); (simp (disch := first | exact List.all_nil | omega | (simp only [go_sem]; done) | (simp only [ln, List.length_map]; omega) | (repeat' first | assumption | exact Ext.refl _ | refine Ext.app ?_ _)) only [go_sem]; rfl))))
      refine ⟨rfl, hR2, ?_⟩
      have hRb2 := get_set_self (d := Rb2) hR2
      have as7 := aW _ _ _ (partW_len _ _) (hlw m) (o6.high (Nat.le_refl _))
      have kp7 := j2.set (.inr (Nat.le_refl _)) Rb2
      have o7 := j3.set as7 Rb2
      generalize (H7.set H6.length Rb2 : AHeap) = Hb2 at hRb2 kp7 o7
      have K7 := low kp7
      have x7 : Ext H Hb2 := K7.ext xG (by omega)
      have hL7 := hL.ext x7
      have d0 := K7.get g0 (by omega)
      have d3 := K7.get g3 (by omega)
      have d6 := kp7.2 _ _ as6W b66
      have d8 := kp7.2 _ _ (o4.high (by omega)) (x56.cell c8)
      have d9 := kp7.2 _ _ (o4.high (by omega)) (x56.cell c9)
      have hdl := j6 d (by simp)
      have hbd := restK_bound (isL := isL) w6 hb k' d
      have bb := bendI_bound (a := (i : Int)) (b := (d : Int)) hb
      have hg7 : ((partT ll bend isL (r + 1)).set r ((partW ll bend isL (ll.length - 1 - r) i).set i m)).getD r [] = (partW ll bend isL (ll.length - 1 - r) i).set i m := getD_set_eq (by omega)
      have hn7 : ((partT ll bend isL (r + 1)).set r ((partW ll bend isL (ll.length - 1 - r) i).set i m)).getD (r + 1) [] = restRow ll bend isL k' := by
        rw [getD_set_ne (by omega), partT_getD (by omega) (Nat.le_refl _), show ll.length - 1 - (r + 1) = k' by omega]
      have hLT7 := o7.lists (n := ll.length) (c := ll.length) (by simp; omega)
      have hTl7 : ((partT ll bend isL (r + 1)).set r ((partW ll bend isL (ll.length - 1 - r) i).set i m)).length = ll.length := by simp; omega
      have hRr := hLT7.row (k := r) (by omega)
      have hRn := hLT7.row (k := r + 1) (by omega)
      obtain ⟨H8, s8, o8, kp8⟩ := o7.setCell3 (i := r) (c := i) (by omega) (by rw [hg7, hlw]; exact hi') (min m (val + bendI bend (i : Int) (d : Int) + restK ll bend isL k' d))
      rw [hg7] at hRr o8
      rw [hn7] at hRn
      have hm7 : ((partW ll bend isL (ll.length - 1 - r) i).set i m).getD i 0 = m := getD_set_eq (by rw [partW_len]; exact hi')
      have hlm := hlw m
      have hrl := restRow_len (ll := ll) (bend := bend) (isL := isL) k'
      have hn0 := restRow_getD (bend := bend) (isL := isL) (k := k') hdl
      ((repeat (first | refine Go.Lq.q1 ?_ | refine Go.Lq.q2 ?_ | refine Go.Lq.q3 ?_ | refine Go.Lq.q4 ?_ | refine Go.Lq.q5 ?_ | refine Go.Lq.q6 ?_ | refine Go.Lq.q7 ?_ | refine Go.Lq.q8 ?_ | refine Go.Lq.q9 ?_ | refine Go.Lq.qa ?_ | refine Go.Lq.qb ?_ | refine Go.Lq.qc ?_ | refine Go.Lq.qd ?_ | refine Go.Lq.qe (by decide) ?_ | refine Go.Lq.qf ?_ | refine Go.Lq.qg ?_ | ((first | apply aops_all | apply adraw_all); (simp (disch := first | exact List.all_nil | omega | (simp only [go_sem]; done) | (simp only [ln, List.length_map]; omega) | (repeat' first | assumption | exact Ext.refl _ | refine Ext.app ?_ _)) only [go_sem, hLT7.len, hLT7.idx, hLT7.load, hRr.len, hRr.idx, hRr.load, load_at d3, load_at d6, load_at d8, load_at d9, loadN_at d0, hm7]; rfl)))); (try ((first | apply aops_until | apply adraw_until); (simp (disch := first | exact List.all_nil | omega | (simp only [go_sem]; done) | (simp only [ln, List.length_map]; omega) | (repeat' first | assumption | exact Ext.refl _ | refine Ext.app ?_ _)) only [go_sem, hLT7.len, hLT7.idx, hLT7.load, hRr.len, hRr.idx, hRr.load, load_at d3, load_at d6, load_at d8, load_at d9, loadN_at d0, hm7]; rfl))))
      refine adraw_call (N := []) (firstD (bend_c hL7)) ?_
      rw [List.append_nil]
      have ern : ((r : Int) + 1).toNat = r + 1 := by omega
      ((repeat (first | refine Go.Lq.q1 ?_ | refine Go.Lq.q2 ?_ | refine Go.Lq.q3 ?_ | refine Go.Lq.q4 ?_ | refine Go.Lq.q5 ?_ | refine Go.Lq.q6 ?_ | refine Go.Lq.q7 ?_ | refine Go.Lq.q8 ?_ | refine Go.Lq.q9 ?_ | refine Go.Lq.qa ?_ | refine Go.Lq.qb ?_ | refine Go.Lq.qc ?_ | refine Go.Lq.qd ?_ | refine Go.Lq.qe (by decide) ?_ | refine Go.Lq.qf ?_ | refine Go.Lq.qg ?_ | ((first | apply aops_all | apply adraw_all); (simp (disch := first | exact List.all_nil | omega | (simp only [go_sem]; done) | (simp only [ln, List.length_map]; omega) | (repeat' first | assumption | exact Ext.refl _ | refine Ext.app ?_ _)) only [go_sem, hLT7.len, hLT7.idx, hLT7.load, hRr.len, hRr.idx, hRr.load, hRn.len, hRn.idx, hRn.load, load_at d3, load_at d6, load_at d8, load_at d9, loadN_at d0, hm7, hn0, s8, ern]; rfl)))); (try ((first | apply aops_until | apply adraw_until); (simp (disch := first | exact List.all_nil | omega | (simp only [go_sem]; done) | (simp only [ln, List.length_map]; omega) | (repeat' first | assumption | exact Ext.refl _ | refine Ext.app ?_ _)) only [go_sem, hLT7.len, hLT7.idx, hLT7.load, hRr.len, hRr.idx, hRr.load, hRn.len, hRn.idx, hRn.load, load_at d3, load_at d6, load_at d8, load_at d9, loadN_at d0, hm7, hn0, s8, ern]; rfl))))
      rw [List.set_set, List.set_set] at o8
      refine rounded_n (kp8.2 _ _ as7 hRb2) ⟨_, tl, rfl, kp7.trans (kp8.mono fun j _ h => aW _ _ j (partW_len _ _) (hlw m) h), o8, j4, by omega, fun d hd => j6 d (by simp [hd])⟩
    · rintro H' ⟨m, tl, j1, j2, j3, j4, j5, j6⟩
      have : tl = [] := List.map_eq_nil_iff.1 j1.symm
      subst this
      have em : m = restK ll bend isL (ll.length - 1 - r) i := by rw [hk']; exact j4
      rw [em, partW_set hi'] at j3
      ((repeat (first | refine Go.Lq.q1 ?_ | refine Go.Lq.q2 ?_ | refine Go.Lq.q3 ?_ | refine Go.Lq.q4 ?_ | refine Go.Lq.q5 ?_ | refine Go.Lq.q6 ?_ | refine Go.Lq.q7 ?_ | refine Go.Lq.q8 ?_ | refine Go.Lq.q9 ?_ | refine Go.Lq.qa ?_ | refine Go.Lq.qb ?_ | refine Go.Lq.qc ?_ | refine Go.Lq.qd ?_ | refine Go.Lq.qe (by decide) ?_ | refine Go.Lq.qf ?_ | refine Go.Lq.qg ?_ | ((first | apply aops_all | apply adraw_all); (simp (disch := first | exact List.all_nil | omega | (simp only [go_sem]; done) | (simp only [ln, List.length_map]; omega) | (repeat' first | assumption | exact Ext.refl _ | refine Ext.app ?_ _)) only [go_sem]; rfl)))); (try ((first | apply aops_until | apply adraw_until); (simp (disch := first | exact List.all_nil | omega | (simp only [go_sem]; done) | (simp only [ln, List.length_map]; omega) | (repeat' first | assumption | exact Ext.refl _ | refine Ext.app ?_ _)) only [go_sem]; rfl))))
      exact ⟨by omega, by simp [forget], kp6.trans (j2.mono fun j _ h => aW _ _ j (partW_len _ _) (partW_len _ _) h), j3⟩
  · rintro H' ⟨r, vs', h1, h2, h3, h4, h5⟩
    obtain rfl : r = 0 := by
      cases r with
      | zero => rfl
      | succ r => exact absurd h1 (by simp [backV])
    ((repeat (first | refine Go.Lq.q1 ?_ | refine Go.Lq.q2 ?_ | refine Go.Lq.q3 ?_ | refine Go.Lq.q4 ?_ | refine Go.Lq.q5 ?_ | refine Go.Lq.q6 ?_ | refine Go.Lq.q7 ?_ | refine Go.Lq.q8 ?_ | refine Go.Lq.q9 ?_ | refine Go.Lq.qa ?_ | refine Go.Lq.qb ?_ | refine Go.Lq.qc ?_ | refine Go.Lq.qd ?_ | refine Go.Lq.qe (by decide) ?_ | refine Go.Lq.qf ?_ | refine Go.Lq.qg ?_ | ((first | apply aops_all | apply adraw_all); (simp (disch := first | exact List.all_nil | omega | (simp only [go_sem]; done) | (simp only [ln, List.length_map]; omega) | (repeat' first | assumption | exact Ext.refl _ | refine Ext.app ?_ _)) only [go_sem, load_at (h3.get g3 (by omega))]; rfl)))); (try ((first | apply aops_until | apply adraw_until); (simp (disch := first | exact List.all_nil | omega | (simp only [go_sem]; done) | (simp only [ln, List.length_map]; omega) | (repeat' first | assumption | exact Ext.refl _ | refine Ext.app ?_ _)) only [go_sem, load_at (h3.get g3 (by omega))]; rfl))))
    have := h4.ownL (H0 := H) (by omega) (by rw [partT_len]; exact w1) (fun i hi => by
      rw [partT_len] at hi
      rw [partT_getD hi (Nat.zero_le _), restRow_len]; exact w2)
    rw [partT_len, partT_zero] at this
    have fin : ∀ {x : Value}, x = .slice (some ⟨H.length + 2, 0, none⟩) ll.length ll.length → ∃ s, x = id s ∧ Ext H H' ∧ OwnL H H' (restTab ll bend isL) s := fun hx => ⟨_, hx, h3.ext xG (by omega), this⟩
    exact fin_1 (fin rfl)
end
end Go.Lq

namespace Go.Lq
open Go
open Go.Proofs

section
variable {ll : List (List Int)} {bend : Int} {isL : Nat → Bool}
theorem followL_cons (k c : Nat) : followL ll bend isL k c = (c : Int) :: (followL ll bend isL k c).tail := by
  cases k <;> rfl
theorem nextK_some {k c : Nat} (h : restK ll bend isL (k + 1) c < 1000000) :
    ∃ d, ((nbL (ll.getD 0 []).length c).find? fun d : Nat => decide (vAt ll (ll.length - 2 - k) c + bendI bend (c : Int) (d : Int) + restK ll bend isL k d = restK ll bend isL (k + 1) c)) = some d ∧ nextK ll bend isL k c = d ∧ d ∈ nbL (ll.getD 0 []).length c ∧
      vAt ll (ll.length - 2 - k) c + bendI bend (c : Int) (d : Int) + restK ll bend isL k d = restK ll bend isL (k + 1) c := by
  obtain ⟨_, _, h3⟩ := minGo_spec (fun d => vAt ll (ll.length - 2 - k) c + bendI bend (c : Int) (d : Int) + restK ll bend isL k d) (nbL (ll.getD 0 []).length c) 1000000
  have e : restK ll bend isL (k + 1) c = minGo (fun d => vAt ll (ll.length - 2 - k) c + bendI bend (c : Int) (d : Int) + restK ll bend isL k d) 1000000 (nbL (ll.getD 0 []).length c) := rfl
  rw [← e] at h3
  rcases h3 with h3 | ⟨a, ha, h3⟩
  · omega
  have hsome : ((nbL (ll.getD 0 []).length c).find? fun d : Nat => decide (vAt ll (ll.length - 2 - k) c + bendI bend (c : Int) (d : Int) + restK ll bend isL k d = restK ll bend isL (k + 1) c)).isSome = true := by
    rw [List.find?_isSome]; exact ⟨a, ha, by simpa using h3⟩
  obtain ⟨x, hx⟩ := Option.isSome_iff_exists.1 hsome
  refine ⟨x, hx, ?_, List.mem_of_find?_eq_some hx, by simpa using List.find?_some hx⟩
  unfold nextK
  rw [hx]; rfl
end

section
variable {H : AHeap}
set_option maxHeartbeats 2000000 in
theorem follow_c {ll : List (List Int)} {vs rs : List Value} {v tv : Value} {bend : Int} {isL : Nat → Bool} {c0 : Nat} (hL : Lists H ll vs v) (hT : Lists H (restTab ll bend isL) rs tv) (hg : gridErrL 40 12 ll = 0) (hb : 0 ≤ bend ∧ bend ≤ 1000)
    (hc : c0 < (ll.getD 0 []).length) (hr : restK ll bend isL (ll.length - 1) c0 < 1000000) :
    ACall Go.Proofs.Tryd.prog 93 [.agg ⟨[v, .int .i64 bend]⟩, tv, .int .i64 c0] H (IntsRet H (followL ll bend isL (ll.length - 1) c0)) := by
  refine ACall.ints ?_
  obtain ⟨w1, w2, w3, w4, w5, w6⟩ := gridErr_ok hg
  have hTl : (restTab ll bend isL).length = ll.length := by simp [restTab]
  have hTr : ∀ r, r < ll.length → (restTab ll bend isL).getD r [] = restRow ll bend isL (ll.length - 1 - r) := fun r hr => by
    rw [← partT_zero, partT_getD hr (Nat.zero_le _)]
  obtain ⟨ta, tn, tc, rfl⟩ : ∃ a n c, tv = .slice a n c := by
    rcases hT.1.2 with ⟨rfl, _⟩ | ⟨id, off, c, rfl, _⟩ <;> exact ⟨_, _, _, rfl⟩
  have hbt : ∀ {H' : AHeap}, boxR (.slice ta tn tc) H' = some (.pointer (some ⟨H'.length, 0, none⟩), H' ++ [.cells true 0 [.slice ta tn tc]]) := rfl
  (refine a93 ?_; simp only [n93, List.replicate, List.length_cons, List.length_nil, List.cons_append, List.nil_append])
  ((repeat (first | refine q1 ?_ | refine q2 ?_ | refine q3 ?_ | refine q4 ?_ | refine q5 ?_ | refine q6 ?_ | refine q7 ?_ | refine q8 ?_ | refine q9 ?_ | refine qa ?_ | refine qb ?_ | refine qc ?_ | refine qd ?_ | refine qe (by decide) ?_ | refine qf ?_ | refine qg ?_ | ((first | apply aops_all | apply adraw_all); (simp (disch := first | exact List.all_nil | omega | (simp only [go_sem]; done) | (simp only [ln, List.length_map]; omega) | (repeat' first | assumption | exact Ext.refl _ | refine Ext.app ?_ _)) only [go_sem, hL.box2, hbt, store_newS]; rfl)))); (try ((first | apply aops_until | apply adraw_until); (simp (disch := first | exact List.all_nil | omega | (simp only [go_sem]; done) | (simp only [ln, List.length_map]; omega) | (repeat' first | assumption | exact Ext.refl _ | refine Ext.app ?_ _)) only [go_sem, hL.box2, hbt, store_newS]; rfl))))
  (simp only [List.length_append, List.length_cons, List.length_nil, Nat.zero_add, Nat.add_assoc, Nat.reduceAdd])
  obtain ⟨G, hG⟩ : ∃ G, G = H ++ [AObj.cells true 0 [v, .int .i64 bend]] ++ [AObj.cells true 0 [.slice ta tn tc]] ++ [AObj.cells true 0 [.int .i64 (c0 : Int)]] ++ [AObj.cells true 1 [.int .i64 (c0 : Int)]] ++ [AObj.cells true 0 [.slice (some ⟨H.length + 3, 0, none⟩) 1 1]] := ⟨_, rfl⟩
  have g0 : G[H.length]? = some (.cells true 0 [v, .int .i64 bend]) := by rw [hG]; exact at_app (at_app (at_app (at_app at_new)))
  have g1 : G[H.length + 1]? = some (.cells true 0 [.slice ta tn tc]) := by rw [hG]; refine at_app (at_app (at_app ?_)); simp
  have g2 : G[H.length + 2]? = some (.cells true 0 [.int .i64 (c0 : Int)]) := by rw [hG]; refine at_app (at_app ?_); simp
  have g3 : G[H.length + 3]? = some (.cells true 1 [.int .i64 (c0 : Int)]) := by rw [hG]; refine at_app ?_; simp
  have g4 : G[H.length + 4]? = some (.cells true 0 [.slice (some ⟨H.length + 3, 0, none⟩) 1 1]) := by rw [hG]; simp
  have xG : Ext H G := by rw [hG]; exact (((((Ext.refl H).app _).app _).app _).app _).app _
  have lG : G.length = H.length + 5 := by rw [hG]; simp
  rw [← hG]
  clear hG
  have own0 : OwnI H G [(c0 : Int)] (.slice (some ⟨H.length + 3, 0, none⟩) 1 1) := ⟨rfl, .inr ⟨H.length + 3, rfl, by omega, by simp, g3⟩⟩
  ((repeat (first | refine q1 ?_ | refine q2 ?_ | refine q3 ?_ | refine q4 ?_ | refine q5 ?_ | refine q6 ?_ | refine q7 ?_ | refine q8 ?_ | refine q9 ?_ | refine qa ?_ | refine qb ?_ | refine qc ?_ | refine qd ?_ | refine qe (by decide) ?_ | refine qf ?_ | refine qg ?_ | ((first | apply aops_all | apply adraw_all); (simp (disch := first | exact List.all_nil | omega | (simp only [go_sem]; done) | (simp only [ln, List.length_map]; omega) | (repeat' first | assumption | exact Ext.refl _ | refine Ext.app ?_ _)) only [go_sem, loadN_at g0]; rfl)))); (try ((first | apply aops_until | apply adraw_until); (simp (disch := first | exact List.all_nil | omega | (simp only [go_sem]; done) | (simp only [ln, List.length_map]; omega) | (repeat' first | assumption | exact Ext.refl _ | refine Ext.app ?_ _)) only [go_sem, loadN_at g0]; rfl))))
  refine aops_call_to (last_c (hL.ext xG) (by omega)) ?_
  ((repeat (first | refine q1 ?_ | refine q2 ?_ | refine q3 ?_ | refine q4 ?_ | refine q5 ?_ | refine q6 ?_ | refine q7 ?_ | refine q8 ?_ | refine q9 ?_ | refine qa ?_ | refine qb ?_ | refine qc ?_ | refine qd ?_ | refine qe (by decide) ?_ | refine qf ?_ | refine qg ?_ | ((first | apply aops_all | apply adraw_all); (simp (disch := first | exact List.all_nil | omega | (simp only [go_sem]; done) | (simp only [ln, List.length_map]; omega) | (repeat' first | assumption | exact Ext.refl _ | refine Ext.app ?_ _)) only [go_sem]; rfl)))); (try ((first | apply aops_until | apply adraw_until); (simp (disch := first | exact List.all_nil | omega | (simp only [go_sem]; done) | (simp only [ln, List.length_map]; omega) | (repeat' first | assumption | exact Ext.refl _ | refine Ext.app ?_ _)) only [go_sem]; rfl))))
  have xk : ∀ {H' : AHeap}, Kp (fun j => j ≠ H.length + 2 ∧ j ≠ H.length + 3 ∧ j ≠ H.length + 4) G H' → Ext H H' := fun h => ext_of_get (by have := h.1; omega) fun i hi => by
    have e := xG.get hi
    have hi2 : i < G.length := by omega
    rw [List.getElem?_eq_getElem hi2] at e
    rw [← e]
    exact h.2 i _ ⟨by omega, by omega, by omega⟩ (List.getElem?_eq_getElem hi2)
  refine awp_loop_n [false, false, false, true, true, true, false, true, false, false, false, false, false, true, true, false, false, false, false, false, false, false, false, false, false, false, false, false, false, false, false, false, false, false, false, false, false, false, false, false, false, false, false, false, false, false, false, false, false, false, false, false, false, false, false, false, false, false, false] (ll.length - 1) (fun i e H' => ∃ (c : Nat) (out : List Int) (v' : Value), e = [junk, junk, junk, .pointer (some ⟨H.length, 0, none⟩), .pointer (some ⟨H.length + 1, 0, none⟩), .pointer (some ⟨H.length + 2, 0, none⟩), junk, .pointer (some ⟨H.length + 4, 0, none⟩), junk, junk, junk, junk, junk, .int .i64 ((ll.length : Int) - 1), .int .i64 i, junk, junk, junk, junk, junk, junk, junk, junk, junk, junk, junk, junk, junk, junk, junk, junk, junk, junk, junk, junk, junk, junk, junk, junk, junk, junk, junk, junk, junk, junk, junk, junk, junk, junk, junk, junk, junk, junk, junk, junk, junk, junk, junk, junk] ∧
    Kp (fun j => j ≠ H.length + 2 ∧ j ≠ H.length + 3 ∧ j ≠ H.length + 4) G H' ∧ H'[H.length + 2]? = some (.cells true 0 [.int .i64 (c : Int)]) ∧ H'[H.length + 4]? = some (.cells true 0 [v']) ∧ OwnI H H' out v' ∧ (idOf v' = H.length + 3 ∨ H.length + 5 ≤ idOf v') ∧
    out ++ (followL ll bend isL (ll.length - 1 - i) c).tail = followL ll bend isL (ll.length - 1) c0 ∧ c < (ll.getD 0 []).length ∧ restK ll bend isL (ll.length - 1 - i) c < 1000000) ?_ ?_
  · exact ⟨c0, [(c0 : Int)], _, by simp [forget], Kp.refl _ _, g2, g4, own0, .inl rfl, (followL_cons _ _).symm, hc, hr⟩
  rintro i e H1 hi ⟨c, out, v', rfl, hk, hc2, hv4, ho, hid, hfol, hcw, hrc⟩
  have hol : out.length ≤ 40 := by
    have e := congrArg List.length hfol
    simp only [List.length_append, followL_len] at e; omega
  ((repeat (first | refine q1 ?_ | refine q2 ?_ | refine q3 ?_ | refine q4 ?_ | refine q5 ?_ | refine q6 ?_ | refine q7 ?_ | refine q8 ?_ | refine q9 ?_ | refine qa ?_ | refine qb ?_ | refine qc ?_ | refine qd ?_ | refine qe (by decide) ?_ | refine qf ?_ | refine qg ?_ | ((first | apply aops_all | apply adraw_all); (simp (disch := first | exact List.all_nil | omega | (simp only [go_sem]; done) | (simp only [ln, List.length_map]; omega) | (repeat' first | assumption | exact Ext.refl _ | refine Ext.app ?_ _)) only [go_sem]; rfl)))); (try ((first | apply aops_until | apply adraw_until); (simp (disch := first | exact List.all_nil | omega | (simp only [go_sem]; done) | (simp only [ln, List.length_map]; omega) | (repeat' first | assumption | exact Ext.refl _ | refine Ext.app ?_ _)) only [go_sem]; rfl))))
  refine cond_p rfl (fun hlt => ?_) (fun hge => ?_)
  rotate_left 1
  · obtain rfl : i = ll.length - 1 := by omega
    have ef : out = followL ll bend isL (ll.length - 1) c0 := by
      rw [Nat.sub_self] at hfol
      simpa [followL] using hfol
    ((repeat (first | refine q1 ?_ | refine q2 ?_ | refine q3 ?_ | refine q4 ?_ | refine q5 ?_ | refine q6 ?_ | refine q7 ?_ | refine q8 ?_ | refine q9 ?_ | refine qa ?_ | refine qb ?_ | refine qc ?_ | refine qd ?_ | refine qe (by decide) ?_ | refine qf ?_ | refine qg ?_ | ((first | apply aops_all | apply adraw_all); (simp (disch := first | exact List.all_nil | omega | (simp only [go_sem]; done) | (simp only [ln, List.length_map]; omega) | (repeat' first | assumption | exact Ext.refl _ | refine Ext.app ?_ _)) only [go_sem, load_at hv4]; rfl)))); (try ((first | apply aops_until | apply adraw_until); (simp (disch := first | exact List.all_nil | omega | (simp only [go_sem]; done) | (simp only [ln, List.length_map]; omega) | (repeat' first | assumption | exact Ext.refl _ | refine Ext.app ?_ _)) only [go_sem, load_at hv4]; rfl))))
    refine fin_1 ⟨xk hk, ?_⟩
    rw [← ef]
    exact ho
  have hi' : i < ll.length - 1 := by omega
  obtain ⟨k', hk'⟩ : ∃ k', ll.length - 1 - i = k' + 1 := ⟨ll.length - 2 - i, by omega⟩
  have er : ll.length - 2 - k' = i := by omega
  have ek2 : ll.length - 1 - (i + 1) = k' := by omega
  rw [hk'] at hrc hfol
  obtain ⟨d0, hfind, hnx, hmem, heq⟩ := nextK_some (k := k') (c := c) hrc
  rw [er] at hfind heq
  have b0 : (H1 ++ [AObj.cells true 0 [.int .i64 (i : Int)]])[H.length]? = some (.cells true 0 [v, .int .i64 bend]) := at_app (hk.2 _ _ ⟨by omega, by omega, by omega⟩ g0)
  have b2 : (H1 ++ [AObj.cells true 0 [.int .i64 (i : Int)]])[H.length + 2]? = some (.cells true 0 [.int .i64 (c : Int)]) := at_app hc2
  ((repeat (first | refine q1 ?_ | refine q2 ?_ | refine q3 ?_ | refine q4 ?_ | refine q5 ?_ | refine q6 ?_ | refine q7 ?_ | refine q8 ?_ | refine q9 ?_ | refine qa ?_ | refine qb ?_ | refine qc ?_ | refine qd ?_ | refine qe (by decide) ?_ | refine qf ?_ | refine qg ?_ | ((first | apply aops_all | apply adraw_all); (simp (disch := first | exact List.all_nil | omega | (simp only [go_sem]; done) | (simp only [ln, List.length_map]; omega) | (repeat' first | assumption | exact Ext.refl _ | refine Ext.app ?_ _)) only [go_sem, loadN_at b0, load_at b2]; rfl)))); (try ((first | apply aops_until | apply adraw_until); (simp (disch := first | exact List.all_nil | omega | (simp only [go_sem]; done) | (simp only [ln, List.length_map]; omega) | (repeat' first | assumption | exact Ext.refl _ | refine Ext.app ?_ _)) only [go_sem, loadN_at b0, load_at b2]; rfl))))
  refine aops_call ((neighbors_c (c := (c : Int)) (hL.ext ((xk hk).app _))).mono fun v1 H3 ⟨e1, e2⟩ => ?_)
  rw [show (H1 ++ [AObj.cells true 0 [.int .i64 (i : Int)]]).length = H1.length + 1 by simp] at e1
  subst e1
  have n8 : H3[H1.length]? = some (.cells true 0 [.int .i64 (i : Int)]) := by rw [e2]; exact at_app (at_app at_new)
  have n0 : H3[H1.length + 1]? = some (.cells true 0 [v, .int .i64 bend]) := by rw [e2]; refine at_app ?_; simp
  have n1 : H3[H1.length + 2]? = some (.cells true 0 [.int .i64 (c : Int)]) := by rw [e2]; simp
  have x13 : Ext H1 H3 := by rw [e2]; exact (((Ext.refl _).app _).app _).app _
  have l3 : H3.length = H1.length + 3 := by rw [e2]; simp
  clear e2 b0 b2
  have lk := hk.1
  (simp only [List.length_append, List.length_cons, List.length_nil, Nat.zero_add, Nat.add_assoc, Nat.reduceAdd])
  (repeat (first | refine q1 ?_ | refine q2 ?_ | refine q3 ?_ | refine q4 ?_ | refine q5 ?_ | refine q6 ?_ | refine q7 ?_ | refine q8 ?_ | refine q9 ?_ | refine qa ?_ | refine qb ?_ | refine qc ?_ | refine qd ?_ | refine qe (by decide) ?_ | refine qf ?_ | refine qg ?_))
  refine awp_rangeA mo rfl (fun l h => by cases h) (nb1_c (idc := H1.length + 2) (idt := H1.length + 1) (c := c) (ll := ll) (vs := vs) (v := v) (bend := bend) w1 (by omega) hcw)
    (fun rest H' => ∃ tl, rest = nbV tl ∧ (tl.find? fun d : Nat => decide (vAt ll i c + bendI bend (c : Int) (d : Int) + restK ll bend isL k' d = restK ll bend isL (k' + 1) c)) = some d0 ∧ (∀ d ∈ tl, d < (ll.getD 0 []).length) ∧ Ext H3 H')
    (fun x H' => x = .exit 2 ∧ ∃ v'', Kp (fun j => j ≠ H.length + 2 ∧ j ≠ H.length + 3 ∧ j ≠ H.length + 4) G H' ∧ H'[H.length + 2]? = some (.cells true 0 [.int .i64 (d0 : Int)]) ∧ H'[H.length + 4]? = some (.cells true 0 [v'']) ∧ OwnI H H' (out ++ [(d0 : Int)]) v'' ∧ H3.length < idOf v'') ?_ ?_ ?_ ?_ ?_ ?_ ?_
  · rintro rest H' c' ⟨tl, j1, j2, j3, j4⟩
    exact ⟨tl, j1, j2, j3, j4.set (Nat.le_refl _) _⟩
  · rintro x H' c' ⟨rfl, v'', s1, s2, s3, s4, s5⟩
    exact ⟨rfl, v'', s1.set (.inr (by omega)) _, by rw [List.getElem?_set_ne (by omega)]; exact s2, by rw [List.getElem?_set_ne (by omega)]; exact s3, s4.set_ne (.inr (by omega)) _, s5⟩
  · rintro rest H' ⟨tl, j1, j2, j3, j4⟩
    exact ⟨j4.cell n1, j4.cell n0, hL.ext (((xk hk).trans x13).trans j4)⟩
  · intro N
    exact ⟨nbL (ll.getD 0 []).length c, rfl, hfind, fun d hd => ((nbL_mem hcw).1 hd).1, (Ext.refl _).app _⟩
  · rintro a rest H4 ⟨tl, j1, j2, j3, j4⟩ hlt4
    match tl, j1 with
    | d :: tl, j1 =>
    obtain ⟨rfl, rfl⟩ := List.cons.inj j1
    refine ⟨rfl, fun R Rb _ hR => ?_⟩
    simp only [assignParams, List.zip_cons_cons, List.zip_nil_left, List.foldl_cons, List.foldl_nil]
    ((repeat (first | refine q1 ?_ | refine q2 ?_ | refine q3 ?_ | refine q4 ?_ | refine q5 ?_ | refine q6 ?_ | refine q7 ?_ | refine q8 ?_ | refine q9 ?_ | refine qa ?_ | refine qb ?_ | refine qc ?_ | refine qd ?_ | refine qe (by decide) ?_ | refine qf ?_ | refine qg ?_ | ((first | apply aops_all | apply adraw_all); (simp (disch := first | exact List.all_nil | omega | (simp only [go_sem]; done) | (simp only [ln, List.length_map]; omega) | (repeat' first | assumption | exact Ext.refl _ | refine Ext.app ?_ _)) only [go_sem]; rfl)))); (try ((first | apply aops_until | apply adraw_until); (simp (disch := first | exact List.all_nil | omega | (simp only [go_sem]; done) | (simp only [ln, List.length_map]; omega) | (repeat' first | assumption | exact Ext.refl _ | refine Ext.app ?_ _)) only [go_sem]; rfl))))
    refine ⟨rfl, hR, ?_⟩
    have hRb := get_set_self (d := Rb) hR
    have x4 := j4.set (Nat.le_refl _) Rb
    generalize (H4.set H3.length Rb : AHeap) = Hb at hRb x4
    have xb : Ext H1 Hb := x13.trans x4
    have kb : Kp (fun j => j ≠ H.length + 2 ∧ j ≠ H.length + 3 ∧ j ≠ H.length + 4) G Hb := by obtain ⟨N, rfl⟩ := xb; exact hk.app N
    have hob : OwnI H Hb out v' := by obtain ⟨N, rfl⟩ := xb; exact ho.app N
    have b0 := kb.2 _ _ ⟨by omega, by omega, by omega⟩ g0
    have b1 := kb.2 _ _ ⟨by omega, by omega, by omega⟩ g1
    have b2 := xb.cell hc2
    have b4 := xb.cell hv4
    have b8 := x4.cell n8
    have lb := x4.len
    have hLb := hL.ext (xk kb)
    have hTb := hT.ext (xk kb)
    have hil : i < ll.length := by omega
    have hrowb := hLb.row hil
    have hR0 := hTb.row (k := i) (by omega)
    have hR1 := hTb.row (k := i + 1) (by omega)
    rw [hTr i hil, hk'] at hR0
    rw [hTr (i + 1) (by omega), ek2] at hR1
    have hdl := j3 d (by simp)
    have w5i := w5 i hil
    have hvb := val_bound w6 i c
    have bb := bendI_bound (a := (c : Int)) (b := (d : Int)) hb
    have hbd := restK_bound (isL := isL) w6 hb k' d
    have hrl0 := restRow_len (ll := ll) (bend := bend) (isL := isL) k'
    have hrl1 := restRow_len (ll := ll) (bend := bend) (isL := isL) (k' + 1)
    have hn0 := restRow_getD (bend := bend) (isL := isL) (k := k') hdl
    have hn1 := restRow_getD (bend := bend) (isL := isL) (k := k' + 1) hcw
    have eri : ((i : Int) + 1).toNat = i + 1 := by omega
    ((repeat (first | refine q1 ?_ | refine q2 ?_ | refine q3 ?_ | refine q4 ?_ | refine q5 ?_ | refine q6 ?_ | refine q7 ?_ | refine q8 ?_ | refine q9 ?_ | refine qa ?_ | refine qb ?_ | refine qc ?_ | refine qd ?_ | refine qe (by decide) ?_ | refine qf ?_ | refine qg ?_ | ((first | apply aops_all | apply adraw_all); (simp (disch := first | exact List.all_nil | omega | (simp only [go_sem]; done) | (simp only [ln, List.length_map]; omega) | (repeat' first | assumption | exact Ext.refl _ | refine Ext.app ?_ _)) only [go_sem, hLb.len, hLb.idx, hLb.load, hrowb.len, hrowb.idx, hrowb.load, load_at b0, load_at b1, load_at b2, load_at b8, loadN_at b0]; rfl)))); (try ((first | apply aops_until | apply adraw_until); (simp (disch := first | exact List.all_nil | omega | (simp only [go_sem]; done) | (simp only [ln, List.length_map]; omega) | (repeat' first | assumption | exact Ext.refl _ | refine Ext.app ?_ _)) only [go_sem, hLb.len, hLb.idx, hLb.load, hrowb.len, hrowb.idx, hrowb.load, load_at b0, load_at b1, load_at b2, load_at b8, loadN_at b0]; rfl))))
    refine adraw_call (N := []) (firstD (bend_c hLb)) ?_
    rw [List.append_nil]
    ((repeat (first | refine q1 ?_ | refine q2 ?_ | refine q3 ?_ | refine q4 ?_ | refine q5 ?_ | refine q6 ?_ | refine q7 ?_ | refine q8 ?_ | refine q9 ?_ | refine qa ?_ | refine qb ?_ | refine qc ?_ | refine qd ?_ | refine qe (by decide) ?_ | refine qf ?_ | refine qg ?_ | ((first | apply aops_all | apply adraw_all); (simp (disch := first | exact List.all_nil | omega | (simp only [go_sem]; done) | (simp only [ln, List.length_map]; omega) | (repeat' first | assumption | exact Ext.refl _ | refine Ext.app ?_ _)) only [go_sem, hTb.len, hTb.idx, hTb.load, hR0.len, hR0.idx, hR0.load, hR1.len, hR1.idx, hR1.load, load_at b0, load_at b1, load_at b2, load_at b8, eri, hn0, hn1]; rfl)))); (try ((first | apply aops_until | apply adraw_until); (simp (disch := first | exact List.all_nil | omega | (simp only [go_sem]; done) | (simp only [ln, List.length_map]; omega) | (repeat' first | assumption | exact Ext.refl _ | refine Ext.app ?_ _)) only [go_sem, hTb.len, hTb.idx, hTb.load, hR0.len, hR0.idx, hR0.load, hR1.len, hR1.idx, hR1.load, load_at b0, load_at b1, load_at b2, load_at b8, eri, hn0, hn1]; rfl))))
    refine cond_p rfl (fun heq2 => ?_) (fun hne2 => ?_)
    · have hd0 : d = d0 := by
        rw [List.find?_cons_of_pos (by simpa [vAt] using heq2)] at j2
        exact Option.some.inj j2
      subst hd0
      have hpush := hob.push (by omega) (d : Int)
      have hne4 : v' = .slice none 0 0 ∨ idOf v' ≠ H.length + 4 := .inr (by omega)
      have hne2' : v' = .slice none 0 0 ∨ idOf v' ≠ H.length + 2 := .inr (by omega)
      have hst := store_at1 (y := pushV Hb out.length) (pushH_at (x := (d : Int)) (l := out) b4 hne4) rfl rfl
      have hq2 : ((pushH Hb v' out (d : Int)).set (H.length + 4) (.cells true 0 [pushV Hb out.length]))[H.length + 2]? = some (.cells true 0 [.int .i64 (c : Int)]) := by
        rw [List.getElem?_set_ne (by omega)]; exact pushH_at b2 hne2'
      have hst2 := store_at1 (y := .int .i64 (d : Int)) hq2 rfl rfl
      ((repeat (first | refine q1 ?_ | refine q2 ?_ | refine q3 ?_ | refine q4 ?_ | refine q5 ?_ | refine q6 ?_ | refine q7 ?_ | refine q8 ?_ | refine q9 ?_ | refine qa ?_ | refine qb ?_ | refine qc ?_ | refine qd ?_ | refine qe (by decide) ?_ | refine qf ?_ | refine qg ?_ | ((first | apply aops_all | apply adraw_all); (simp (disch := first | exact List.all_nil | omega | (simp only [go_sem]; done) | (simp only [ln, List.length_map]; omega) | (repeat' first | assumption | exact Ext.refl _ | refine Ext.app ?_ _)) only [go_sem, load_at b4, hpush, hst, hst2]; rfl)))); (try ((first | apply aops_until | apply adraw_until); (simp (disch := first | exact List.all_nil | omega | (simp only [go_sem]; done) | (simp only [ln, List.length_map]; omega) | (repeat' first | assumption | exact Ext.refl _ | refine Ext.app ?_ _)) only [go_sem, load_at b4, hpush, hst, hst2]; rfl))))
      have hidR : v' = .slice none 0 0 ∨ idOf v' ≠ H3.length := hob.nil_or (by
        by_cases h0 : out.length = 0
        · exact .inl h0
        · exact .inr (by have := (ho.id_lt (by omega)).2; omega))
      have hkp : Kp (fun j => j ≠ H.length + 2 ∧ j ≠ H.length + 3 ∧ j ≠ H.length + 4) G (pushH Hb v' out (d : Int)) := ⟨by rw [pushH_len]; omega, fun j c ha hc => by
        have hj := (List.getElem?_eq_some_iff.1 hc).1
        exact pushH_at (kb.2 j c ha hc) (.inr (by omega))⟩
      have eid : idOf (pushV Hb out.length) = Hb.length + 1 := rfl
      refine rounded_x ?_ ⟨rfl, pushV Hb out.length, (hkp.set (.inl (by simp)) _).set (.inl (by simp)) _, get_set_self hq2, ?_, ?_, by omega⟩
      · rw [List.getElem?_set_ne (by omega), List.getElem?_set_ne (by omega)]
        exact pushH_at hRb hidR
      · rw [List.getElem?_set_ne (by omega)]
        exact get_set_self (pushH_at b4 hne4)
      · exact OwnI.set_ne (OwnI.set_ne (hob.pushed (xk kb) _) (.inr (by omega)) _) (.inr (by omega)) _
    · ((repeat (first | refine q1 ?_ | refine q2 ?_ | refine q3 ?_ | refine q4 ?_ | refine q5 ?_ | refine q6 ?_ | refine q7 ?_ | refine q8 ?_ | refine q9 ?_ | refine qa ?_ | refine qb ?_ | refine qc ?_ | refine qd ?_ | refine qe (by decide) ?_ | refine qf ?_ | refine qg ?_ | ((first | apply aops_all | apply adraw_all); (simp (disch := first | exact List.all_nil | omega | (simp only [go_sem]; done) | (simp only [ln, List.length_map]; omega) | (repeat' first | assumption | exact Ext.refl _ | refine Ext.app ?_ _)) only [go_sem]; rfl)))); (try ((first | apply aops_until | apply adraw_until); (simp (disch := first | exact List.all_nil | omega | (simp only [go_sem]; done) | (simp only [ln, List.length_map]; omega) | (repeat' first | assumption | exact Ext.refl _ | refine Ext.app ?_ _)) only [go_sem]; rfl))))
      refine rounded_n hRb ⟨tl, rfl, ?_, fun d hd => j3 d (by simp [hd]), x4⟩
      rw [List.find?_cons_of_neg (by simpa [vAt] using hne2)] at j2
      exact j2
  · rintro H' ⟨tl, j1, j2, j3, j4⟩
    have : tl = [] := List.map_eq_nil_iff.1 j1.symm
    subst this
    exact absurd j2 (by simp)
  · rintro x H' hn ⟨rfl, v'', s1, s2, s3, s4, s5⟩
    ((repeat (first | refine q1 ?_ | refine q2 ?_ | refine q3 ?_ | refine q4 ?_ | refine q5 ?_ | refine q6 ?_ | refine q7 ?_ | refine q8 ?_ | refine q9 ?_ | refine qa ?_ | refine qb ?_ | refine qc ?_ | refine qd ?_ | refine qe (by decide) ?_ | refine qf ?_ | refine qg ?_ | ((first | apply aops_all | apply adraw_all); (simp (disch := first | exact List.all_nil | omega | (simp only [go_sem]; done) | (simp only [ln, List.length_map]; omega) | (repeat' first | assumption | exact Ext.refl _ | refine Ext.app ?_ _)) only [go_sem]; rfl)))); (try ((first | apply aops_until | apply adraw_until); (simp (disch := first | exact List.all_nil | omega | (simp only [go_sem]; done) | (simp only [ln, List.length_map]; omega) | (repeat' first | assumption | exact Ext.refl _ | refine Ext.app ?_ _)) only [go_sem]; rfl))))
    refine ⟨by omega, d0, out ++ [(d0 : Int)], v'', by simp [forget], s1, s2, s3, s4, .inr (by omega), ?_, ((nbL_mem hcw).1 hmem).1, ?_⟩
    · rw [ek2, ← hfol, List.append_assoc]
      show out ++ ([(d0 : Int)] ++ _) = out ++ followL ll bend isL k' (nextK ll bend isL k' c)
      rw [hnx, followL_cons k' d0]
      rfl
    · rw [ek2]
      have hvb := val_bound w6 i c
      have bb := bendI_bound (a := (c : Int)) (b := (d0 : Int)) hb
      simp only [vAt] at heq
      omega
end
end Go.Lq

namespace Go.Lq
open Go
open Go.Proofs

def priceRow (w : Nat) (r : List Int) : Int := if r.length = w then (if r.all (sizedB 1000000) then 0 else 2) else 10
def priceRows (w : Nat) : List (List Int) → Int
  | [] => 0
  | r :: t => if priceRow w r = 0 then priceRows w t else priceRow w r
def mostL (ll : List (List Int)) (bend : Int) (pp : List (List Int)) (row c : Nat) : Int := if row = 0 then (ll.getD 0 []).getD c 0 else ceilL ll bend (pp.getD (row - 1) []) row c
def PricesOk (ll : List (List Int)) (bend : Int) (pp : List (List Int)) : Prop := ∀ row, row < pp.length → ∀ c, c < (ll.getD 0 []).length → (pp.getD row []).getD c 0 ≤ mostL ll bend pp row c
open Classical in
noncomputable def pricesErrL (ll : List (List Int)) (bend : Int) (pp : List (List Int)) : Int :=
  if pp.length = ll.length then (if priceRows (ll.getD 0 []).length pp = 0 then (if PricesOk ll bend pp then 0 else 19) else priceRows (ll.getD 0 []).length pp) else 10
def minTo (l : List Int) : Nat → Int
  | 0 => l.getD 0 0
  | n + 1 => min (minTo l n) (l.getD n 0)
def boundL (pp : List (List Int)) : Int := minTo (pp.getD (pp.length - 1) []) (pp.getD (pp.length - 1) []).length

theorem priceRows_step {w : Nat} {ll : List (List Int)} {i : Nat} (h : i < ll.length) : priceRows w (ll.drop i) = if priceRow w (ll.getD i []) = 0 then priceRows w (ll.drop (i + 1)) else priceRow w (ll.getD i []) := by
  rw [drop_getD (d := []) h]; rfl
theorem priceRows_end {w : Nat} {ll : List (List Int)} {i : Nat} (h : ll.length ≤ i) : priceRows w (ll.drop i) = 0 := by rw [drop_end h]; rfl
theorem priceRows_all {w : Nat} : ∀ {ll : List (List Int)}, priceRows w ll = 0 → ∀ i, i < ll.length → priceRow w (ll.getD i []) = 0
  | [], _, i, hi => by simp at hi
  | r :: t, h, i, hi => by
    unfold priceRows at h
    by_cases hr : priceRow w r = 0
    · rw [if_pos hr] at h
      cases i with
      | zero => exact hr
      | succ i => simpa using priceRows_all h i (by simpa using hi)
    · rw [if_neg hr] at h; exact absurd h hr
theorem priceRow_ok {w : Nat} {r : List Int} (h : priceRow w r = 0) : r.length = w ∧ ∀ c : Nat, -1000000 ≤ r.getD c 0 ∧ r.getD c 0 ≤ 1000000 := by
  unfold priceRow at h
  split at h
  · rename_i h1
    split at h
    · rename_i h2
      refine ⟨h1, fun c => ?_⟩
      by_cases hc : c < r.length
      · have := List.all_eq_true.1 h2 _ (getD_mem (d := 0) hc)
        simpa [sizedB] using this
      · rw [getD_ge (by omega)]; omega
    · cases h
  · cases h
theorem ceilGo_le {bend : Int} {bef : List Int} {c : Nat} {k : Int} : ∀ {l : List Nat} {m : Int}, k ≤ ceilGo bend bef c m l ↔ k ≤ m ∧ ∀ d ∈ l, k ≤ bef.getD d 0 + bendI bend d c
  | [], m => by simp [ceilGo]
  | d :: t, m => by
    rw [ceilGo, ceilGo_le]
    simp only [List.mem_cons, forall_eq_or_imp]
    exact ⟨fun ⟨h1, h2⟩ => ⟨by omega, by omega, h2⟩, fun ⟨h1, h2, h3⟩ => ⟨by omega, h3⟩⟩
theorem le_ceilL {ll : List (List Int)} {bend : Int} {bef : List Int} {row c : Nat} {n : Int} (hn : n ≤ 1000000) (hv : 0 ≤ (ll.getD row []).getD c 0) :
    n ≤ ceilL ll bend bef row c ↔ ∀ d ∈ nbL (ll.getD 0 []).length c, n ≤ (ll.getD row []).getD c 0 + bef.getD d 0 + bendI bend d c := by
  have := ceilGo_le (bend := bend) (bef := bef) (c := c) (k := n - (ll.getD row []).getD c 0) (l := nbL (ll.getD 0 []).length c) (m := 1000000)
  unfold ceilL
  constructor
  · intro h d hd
    have := (this.1 (by omega)).2 d hd; omega
  · intro h
    have := this.2 ⟨by omega, fun d hd => by have := h d hd; omega⟩
    omega
theorem minTo_le {l : List Int} : ∀ {n i : Nat}, i < n → minTo l n ≤ l.getD i 0
  | 0, i, h => by omega
  | n + 1, i, h => by
    simp only [minTo]
    by_cases hi : i = n
    · subst hi; omega
    · have := minTo_le (l := l) (n := n) (i := i) (by omega); omega
/-- No path costs less than the bound of prices that are accepted. -/
theorem bound_cost {ll : List (List Int)} {bend : Int} {pp : List (List Int)} {p : List Int} (hpl : pp.length = ll.length) (hrows : priceRows (ll.getD 0 []).length pp = 0) (hok : PricesOk ll bend pp) (hp : pathErrL ll p = 0) (hg : gridErrL 40 12 ll = 0) :
    boundL pp ≤ costTo ll bend p p.length := by
  obtain ⟨w1, w2, w3, w4, w5, w6⟩ := gridErr_ok hg
  obtain ⟨pl, pv⟩ := pathErr_ok hp
  have hr := priceRows_all hrows
  have key : ∀ i, i < p.length → (pp.getD i []).getD (p.getD i 0).toNat 0 ≤ costTo ll bend p (i + 1) := fun i => by
    induction i with
    | zero =>
      intro hi
      obtain ⟨hb, _⟩ := pv 0 hi
      have h1 := hok 0 (by omega) (p.getD 0 0).toNat (by omega)
      simp only [mostL, if_true] at h1
      simp only [costTo, pixOf, bendAt, if_true]
      omega
    | succ i ih =>
      intro hi
      have hi1 := ih (by omega)
      obtain ⟨hb, hd⟩ := pv (i + 1) hi
      obtain ⟨hb0, _⟩ := pv i (by omega)
      rcases hd with hd | hd
      · omega
      simp only [Nat.add_sub_cancel] at hd
      have h1 := hok (i + 1) (by omega) (p.getD (i + 1) 0).toNat (by omega)
      rw [mostL, if_neg (by omega), Nat.add_sub_cancel] at h1
      have hvb := val_bound w6 (i + 1) (p.getD (i + 1) 0).toNat
      have hpb := (priceRow_ok (hr (i + 1) (by omega))).2 (p.getD (i + 1) 0).toNat
      have h2 := (le_ceilL hpb.2 hvb.1).1 h1 (p.getD i 0).toNat ((nbL_mem (by omega)).2 ⟨by omega, by omega, by omega⟩)
      have e1 : bendI bend ((p.getD i 0).toNat : Int) ((p.getD (i + 1) 0).toNat : Int) = bendAt bend p (i + 1) := by
        unfold bendAt
        rw [if_neg (by omega), Nat.add_sub_cancel]
        congr 1 <;> omega
      rw [e1] at h2
      have : costTo ll bend p (i + 1 + 1) = costTo ll bend p (i + 1) + pixOf ll p (i + 1) + bendAt bend p (i + 1) := rfl
      rw [this]
      unfold pixOf
      omega
  have hlast := key (p.length - 1) (by omega)
  obtain ⟨hb, _⟩ := pv (p.length - 1) (by omega)
  have hrl := (priceRow_ok (hr (pp.length - 1) (by omega))).1
  have hm := minTo_le (l := pp.getD (pp.length - 1) []) (n := (pp.getD (pp.length - 1) []).length) (i := (p.getD (p.length - 1) 0).toNat) (by omega)
  unfold boundL
  rw [show p.length - 1 + 1 = p.length by omega] at hlast
  rw [show pp.length - 1 = p.length - 1 by omega] at hm ⊢
  omega

section
variable {H : AHeap}
theorem min_c {l : List Int} {v : Value} (hl : Ints H l v) (h0 : 0 < l.length) (hb : l.length ≤ 1000000000) :
    ACall Go.Proofs.Tryd.prog 92 [v] H fun v H' => v = .int .i64 (minTo l l.length) ∧ H' = H := by
  (refine a92 ?_; simp only [n92, List.replicate, List.length_cons, List.length_nil, List.cons_append, List.nil_append])
  ((repeat (first | refine q1 ?_ | refine q2 ?_ | refine q3 ?_ | refine q4 ?_ | refine q5 ?_ | refine q6 ?_ | refine q7 ?_ | refine q8 ?_ | refine q9 ?_ | refine qa ?_ | refine qb ?_ | refine qc ?_ | refine qd ?_ | refine qe (by decide) ?_ | refine qf ?_ | refine qg ?_ | ((first | apply aops_all | apply adraw_all); (simp (disch := first | exact List.all_nil | omega | (simp only [go_sem]; done) | (simp only [ln, List.length_map]; omega) | (repeat' first | assumption | exact Ext.refl _ | refine Ext.app ?_ _)) only [go_sem, hl.len, hl.idx, hl.load, dec_f (show ¬ (l.length : Int) < 1 by omega)]; rfl)))); (try ((first | apply aops_until | apply adraw_until); (simp (disch := first | exact List.all_nil | omega | (simp only [go_sem]; done) | (simp only [ln, List.length_map]; omega) | (repeat' first | assumption | exact Ext.refl _ | refine Ext.app ?_ _)) only [go_sem, hl.len, hl.idx, hl.load, dec_f (show ¬ (l.length : Int) < 1 by omega)]; rfl))))
  refine cond_f rfl ?_
  have e1 : minTo l 1 = l.getD 0 0 := by simp only [minTo]; omega
  ((repeat (first | refine q1 ?_ | refine q2 ?_ | refine q3 ?_ | refine q4 ?_ | refine q5 ?_ | refine q6 ?_ | refine q7 ?_ | refine q8 ?_ | refine q9 ?_ | refine qa ?_ | refine qb ?_ | refine qc ?_ | refine qd ?_ | refine qe (by decide) ?_ | refine qf ?_ | refine qg ?_ | ((first | apply aops_all | apply adraw_all); (simp (disch := first | exact List.all_nil | omega | (simp only [go_sem]; done) | (simp only [ln, List.length_map]; omega) | (repeat' first | assumption | exact Ext.refl _ | refine Ext.app ?_ _)) only [go_sem, hl.len, hl.idx, hl.load, show (0 : Int).toNat = 0 from rfl]; rfl)))); (try ((first | apply aops_until | apply adraw_until); (simp (disch := first | exact List.all_nil | omega | (simp only [go_sem]; done) | (simp only [ln, List.length_map]; omega) | (repeat' first | assumption | exact Ext.refl _ | refine Ext.app ?_ _)) only [go_sem, hl.len, hl.idx, hl.load, show (0 : Int).toNat = 0 from rfl]; rfl))))
  refine awp_loop_n [true, false, false, true, true, false, false, false, false, false, false, false, false, false, false, false, false, false, false, false, false, false, false, false, false] (l.length - 1) (fun i e H' => H' = H ∧ e = [v, junk, junk, .int .i64 (minTo l (i + 1)), .int .i64 ((i + 1 : Nat) : Int), junk, junk, junk, junk, junk, junk, junk, junk, junk, junk, junk, junk, junk, junk, junk, junk, junk, junk, junk, junk]) ?_ ?_
  · exact ⟨rfl, by simp [forget, e1]⟩
  rintro i e H1 hi ⟨rfl, rfl⟩
  ((repeat (first | refine q1 ?_ | refine q2 ?_ | refine q3 ?_ | refine q4 ?_ | refine q5 ?_ | refine q6 ?_ | refine q7 ?_ | refine q8 ?_ | refine q9 ?_ | refine qa ?_ | refine qb ?_ | refine qc ?_ | refine qd ?_ | refine qe (by decide) ?_ | refine qf ?_ | refine qg ?_ | ((first | apply aops_all | apply adraw_all); (simp (disch := first | exact List.all_nil | omega | (simp only [go_sem]; done) | (simp only [ln, List.length_map]; omega) | (repeat' first | assumption | exact Ext.refl _ | refine Ext.app ?_ _)) only [go_sem, hl.len, hl.idx, hl.load]; rfl)))); (try ((first | apply aops_until | apply adraw_until); (simp (disch := first | exact List.all_nil | omega | (simp only [go_sem]; done) | (simp only [ln, List.length_map]; omega) | (repeat' first | assumption | exact Ext.refl _ | refine Ext.app ?_ _)) only [go_sem, hl.len, hl.idx, hl.load]; rfl))))
  refine cond_p rfl (fun hlt => ?_) (fun hge => ?_)
  · ((repeat (first | refine q1 ?_ | refine q2 ?_ | refine q3 ?_ | refine q4 ?_ | refine q5 ?_ | refine q6 ?_ | refine q7 ?_ | refine q8 ?_ | refine q9 ?_ | refine qa ?_ | refine qb ?_ | refine qc ?_ | refine qd ?_ | refine qe (by decide) ?_ | refine qf ?_ | refine qg ?_ | ((first | apply aops_all | apply adraw_all); (simp (disch := first | exact List.all_nil | omega | (simp only [go_sem]; done) | (simp only [ln, List.length_map]; omega) | (repeat' first | assumption | exact Ext.refl _ | refine Ext.app ?_ _)) only [go_sem, hl.len, hl.idx, hl.load]; rfl)))); (try ((first | apply aops_until | apply adraw_until); (simp (disch := first | exact List.all_nil | omega | (simp only [go_sem]; done) | (simp only [ln, List.length_map]; omega) | (repeat' first | assumption | exact Ext.refl _ | refine Ext.app ?_ _)) only [go_sem, hl.len, hl.idx, hl.load]; rfl))))
    exact ⟨by omega, rfl, by simp [forget, minTo]⟩
  · ((repeat (first | refine q1 ?_ | refine q2 ?_ | refine q3 ?_ | refine q4 ?_ | refine q5 ?_ | refine q6 ?_ | refine q7 ?_ | refine q8 ?_ | refine q9 ?_ | refine qa ?_ | refine qb ?_ | refine qc ?_ | refine qd ?_ | refine qe (by decide) ?_ | refine qf ?_ | refine qg ?_ | ((first | apply aops_all | apply adraw_all); (simp (disch := first | exact List.all_nil | omega | (simp only [go_sem]; done) | (simp only [ln, List.length_map]; omega) | (repeat' first | assumption | exact Ext.refl _ | refine Ext.app ?_ _)) only [go_sem]; rfl)))); (try ((first | apply aops_until | apply adraw_until); (simp (disch := first | exact List.all_nil | omega | (simp only [go_sem]; done) | (simp only [ln, List.length_map]; omega) | (repeat' first | assumption | exact Ext.refl _ | refine Ext.app ?_ _)) only [go_sem]; rfl))))
    exact fin_1 ⟨by rw [show l.length = i + 1 by omega]; rfl, rfl⟩
theorem refBound_c {pp : List (List Int)} {vs : List Value} {v : Value} (hP : Lists H pp vs v) (h0 : 0 < pp.length) (hb : pp.length ≤ 1000000) (h1 : 0 < (pp.getD (pp.length - 1) []).length) (h2 : (pp.getD (pp.length - 1) []).length ≤ 1000000) :
    ACall Go.Proofs.Tryd.prog 59 [v] H fun v H' => v = .int .i64 (boundL pp) ∧ H' = H := by
  (refine a59 ?_; simp only [n59, List.replicate, List.length_cons, List.length_nil, List.cons_append, List.nil_append])
  have c1 : ((pp.length : Int) - 1) = ((pp.length - 1 : Nat) : Int) := by omega
  have hrow := hP.row (k := pp.length - 1) (by omega)
  ((repeat (first | refine q1 ?_ | refine q2 ?_ | refine q3 ?_ | refine q4 ?_ | refine q5 ?_ | refine q6 ?_ | refine q7 ?_ | refine q8 ?_ | refine q9 ?_ | refine qa ?_ | refine qb ?_ | refine qc ?_ | refine qd ?_ | refine qe (by decide) ?_ | refine qf ?_ | refine qg ?_ | ((first | apply aops_all | apply adraw_all); (simp (disch := first | exact List.all_nil | omega | (simp only [go_sem]; done) | (simp only [ln, List.length_map]; omega) | (repeat' first | assumption | exact Ext.refl _ | refine Ext.app ?_ _)) only [go_sem, hP.len, hP.idx, hP.load, hrow.len, hrow.idx, hrow.load, c1, show (0 : Int).toNat = 0 from rfl]; rfl)))); (try ((first | apply aops_until | apply adraw_until); (simp (disch := first | exact List.all_nil | omega | (simp only [go_sem]; done) | (simp only [ln, List.length_map]; omega) | (repeat' first | assumption | exact Ext.refl _ | refine Ext.app ?_ _)) only [go_sem, hP.len, hP.idx, hP.load, hrow.len, hrow.idx, hrow.load, c1, show (0 : Int).toNat = 0 from rfl]; rfl))))
  generalize hl : pp.getD (pp.length - 1) [] = l at *
  generalize vs.getD (pp.length - 1) undef = u at *
  refine awp_loop_n [false, false, false, true, true, true, false, false, false, false, false, false, false, false, false, false, false, false, false, false, false, false, false, false, false, false, false, false] l.length (fun i e H' => H' = H ∧ e = [junk, junk, junk, u, .int .i64 (minTo l i), .int .i64 i, junk, junk, junk, junk, junk, junk, junk, junk, junk, junk, junk, junk, junk, junk, junk, junk, junk, junk, junk, junk, junk, junk]) ?_ ?_
  · exact ⟨rfl, by simp [forget, minTo]⟩
  rintro i e H1 hi ⟨rfl, rfl⟩
  ((repeat (first | refine q1 ?_ | refine q2 ?_ | refine q3 ?_ | refine q4 ?_ | refine q5 ?_ | refine q6 ?_ | refine q7 ?_ | refine q8 ?_ | refine q9 ?_ | refine qa ?_ | refine qb ?_ | refine qc ?_ | refine qd ?_ | refine qe (by decide) ?_ | refine qf ?_ | refine qg ?_ | ((first | apply aops_all | apply adraw_all); (simp (disch := first | exact List.all_nil | omega | (simp only [go_sem]; done) | (simp only [ln, List.length_map]; omega) | (repeat' first | assumption | exact Ext.refl _ | refine Ext.app ?_ _)) only [go_sem, hrow.len, hrow.idx, hrow.load]; rfl)))); (try ((first | apply aops_until | apply adraw_until); (simp (disch := first | exact List.all_nil | omega | (simp only [go_sem]; done) | (simp only [ln, List.length_map]; omega) | (repeat' first | assumption | exact Ext.refl _ | refine Ext.app ?_ _)) only [go_sem, hrow.len, hrow.idx, hrow.load]; rfl))))
  refine cond_p rfl (fun hlt => ?_) (fun hge => ?_)
  · ((repeat (first | refine q1 ?_ | refine q2 ?_ | refine q3 ?_ | refine q4 ?_ | refine q5 ?_ | refine q6 ?_ | refine q7 ?_ | refine q8 ?_ | refine q9 ?_ | refine qa ?_ | refine qb ?_ | refine qc ?_ | refine qd ?_ | refine qe (by decide) ?_ | refine qf ?_ | refine qg ?_ | ((first | apply aops_all | apply adraw_all); (simp (disch := first | exact List.all_nil | omega | (simp only [go_sem]; done) | (simp only [ln, List.length_map]; omega) | (repeat' first | assumption | exact Ext.refl _ | refine Ext.app ?_ _)) only [go_sem, hrow.len, hrow.idx, hrow.load]; rfl)))); (try ((first | apply aops_until | apply adraw_until); (simp (disch := first | exact List.all_nil | omega | (simp only [go_sem]; done) | (simp only [ln, List.length_map]; omega) | (repeat' first | assumption | exact Ext.refl _ | refine Ext.app ?_ _)) only [go_sem, hrow.len, hrow.idx, hrow.load]; rfl))))
    exact ⟨by omega, rfl, by simp [forget, minTo]⟩
  · ((repeat (first | refine q1 ?_ | refine q2 ?_ | refine q3 ?_ | refine q4 ?_ | refine q5 ?_ | refine q6 ?_ | refine q7 ?_ | refine q8 ?_ | refine q9 ?_ | refine qa ?_ | refine qb ?_ | refine qc ?_ | refine qd ?_ | refine qe (by decide) ?_ | refine qf ?_ | refine qg ?_ | ((first | apply aops_all | apply adraw_all); (simp (disch := first | exact List.all_nil | omega | (simp only [go_sem]; done) | (simp only [ln, List.length_map]; omega) | (repeat' first | assumption | exact Ext.refl _ | refine Ext.app ?_ _)) only [go_sem]; rfl)))); (try ((first | apply aops_until | apply adraw_until); (simp (disch := first | exact List.all_nil | omega | (simp only [go_sem]; done) | (simp only [ln, List.length_map]; omega) | (repeat' first | assumption | exact Ext.refl _ | refine Ext.app ?_ _)) only [go_sem]; rfl))))
    exact fin_1 ⟨by unfold boundL; rw [hl, show l.length = i by omega]; rfl, rfl⟩
theorem price1_c : Asks (.func (.func 116) #[] #[]) (fun n => !sizedB 1000000 n) := fun n H => by
  show ACall _ _ _ _ _
  (refine a116 ?_; simp only [n116, List.replicate, List.length_cons, List.length_nil, List.cons_append, List.nil_append])
  ((repeat (first | refine q1 ?_ | refine q2 ?_ | refine q3 ?_ | refine q4 ?_ | refine q5 ?_ | refine q6 ?_ | refine q7 ?_ | refine q8 ?_ | refine q9 ?_ | refine qa ?_ | refine qb ?_ | refine qc ?_ | refine qd ?_ | refine qe (by decide) ?_ | refine qf ?_ | refine qg ?_ | ((first | apply aops_all | apply adraw_all); (simp (disch := first | exact List.all_nil | omega | (simp only [go_sem]; done) | (simp only [ln, List.length_map]; omega) | (repeat' first | assumption | exact Ext.refl _ | refine Ext.app ?_ _)) only [go_sem]; rfl)))); (try ((first | apply aops_until | apply adraw_until); (simp (disch := first | exact List.all_nil | omega | (simp only [go_sem]; done) | (simp only [ln, List.length_map]; omega) | (repeat' first | assumption | exact Ext.refl _ | refine Ext.app ?_ _)) only [go_sem]; rfl))))
  refine aops_call_to (isSized_c _ _ (by omega)) ?_
  ((repeat (first | refine q1 ?_ | refine q2 ?_ | refine q3 ?_ | refine q4 ?_ | refine q5 ?_ | refine q6 ?_ | refine q7 ?_ | refine q8 ?_ | refine q9 ?_ | refine qa ?_ | refine qb ?_ | refine qc ?_ | refine qd ?_ | refine qe (by decide) ?_ | refine qf ?_ | refine qg ?_ | ((first | apply aops_all | apply adraw_all); (simp (disch := first | exact List.all_nil | omega | (simp only [go_sem]; done) | (simp only [ln, List.length_map]; omega) | (repeat' first | assumption | exact Ext.refl _ | refine Ext.app ?_ _)) only [go_sem]; rfl)))); (try ((first | apply aops_until | apply adraw_until); (simp (disch := first | exact List.all_nil | omega | (simp only [go_sem]; done) | (simp only [ln, List.length_map]; omega) | (repeat' first | assumption | exact Ext.refl _ | refine Ext.app ?_ _)) only [go_sem]; rfl))))
  exact fin_1 ⟨rfl, rfl⟩
end
end Go.Lq
