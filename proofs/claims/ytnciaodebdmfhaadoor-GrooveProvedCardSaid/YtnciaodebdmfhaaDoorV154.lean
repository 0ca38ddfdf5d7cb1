/- Towards GrooveProved of seat YtnciaodebdmfhaaDoor: it returns true for every input. Made out of the proof's own texts, merged. -/
import Derived.Test.YtnciaodebdmfhaaDoorV153
set_option linter.unusedSimpArgs false
set_option maxRecDepth 100000
namespace Go.Lq
open Go
open Go.Proofs

def ixD (x : Int) : List Int → Int → Int
  | [], _ => -1
  | a :: t, n => if x = a then n else ixD x t (n + 1)
theorem ixD_at {x : Int} : ∀ {l : List Int} {i : Nat} (n : Int), i < l.length → l.getD i 0 = x → ∃ j : Nat, ixD x l n = n + j ∧ j < l.length ∧ l.getD j 0 = x
  | a :: l, i, n, hi, hx => by
    unfold ixD
    by_cases h : x = a
    · exact ⟨0, by rw [if_pos h]; simp, by simp, by simpa using h.symm⟩
    · rw [if_neg h]
      cases i with
      | zero => exact absurd hx.symm (by simpa using h)
      | succ i =>
        obtain ⟨j, h1, h2, h3⟩ := ixD_at (l := l) (i := i) (n + 1) (by simpa using hi) (by simpa using hx)
        exact ⟨j + 1, by rw [h1]; push_cast; omega, by simpa using h2, by simpa using h3⟩
theorem minTo_at {l : List Int} : ∀ {n : Nat}, 0 < n → ∃ i, i < n ∧ l.getD i 0 = minTo l n
  | 1, _ => ⟨0, by omega, by simp only [minTo]; omega⟩
  | n + 2, _ => by
    obtain ⟨i, hi, he⟩ := minTo_at (l := l) (n := n + 1) (by omega)
    have e : minTo l (n + 2) = min (minTo l (n + 1)) (l.getD (n + 1) 0) := rfl
    by_cases h : minTo l (n + 1) ≤ l.getD (n + 1) 0
    · exact ⟨i, by omega, by omega⟩
    · exact ⟨n + 1, by omega, by omega⟩
theorem restK_true {ll : List (List Int)} {bend : Int} (hv : ∀ i, i < ll.length → ∀ n ∈ ll.getD i [], 0 ≤ n ∧ n ≤ 255) {c : Nat} (hc : c < (ll.getD 0 []).length) : ∀ k, restK ll bend (fun _ => true) k c ≤ 255 * (k + 1)
  | 0 => by
    have := val_bound hv (ll.length - 1) c
    show vAt ll (ll.length - 1) c ≤ _
    unfold vAt; omega
  | k + 1 => by
    have h := (minGo_spec (fun d => vAt ll (ll.length - 2 - k) c + bendI bend (c : Int) (d : Int) + restK ll bend (fun _ => true) k d) (nbL (ll.getD 0 []).length c) 1000000).2.1 c ((nbL_mem hc).2 ⟨hc, by omega, by omega⟩)
    have e : restK ll bend (fun _ => true) (k + 1) c = minGo (fun d => vAt ll (ll.length - 2 - k) c + bendI bend (c : Int) (d : Int) + restK ll bend (fun _ => true) k d) 1000000 (nbL (ll.getD 0 []).length c) := rfl
    rw [← e] at h
    have hb : bendI bend (c : Int) (c : Int) = 0 := by unfold bendI; rw [if_pos rfl]
    have := val_bound hv (ll.length - 2 - k) c
    have ih := restK_true (bend := bend) hv hc k
    simp only [hb, vAt] at h
    push_cast
    omega

section
variable {H : AHeap}
theorem index_c {l : List Int} {v : Value} {x : Int} (hl : Ints H l v) (hb : l.length ≤ 1000000000) :
    ACall Go.Proofs.Tryd.prog 94 [v, .int .i64 x] H fun v1 H' => v1 = .int .i64 (ixD x l 0) ∧ H' = H := by
  (refine a94 ?_; simp only [n94, List.replicate, List.length_cons, List.length_nil, List.cons_append, List.nil_append])
  ((repeat (first | refine q1 ?_ | refine q2 ?_ | refine q3 ?_ | refine q4 ?_ | refine q5 ?_ | refine q6 ?_ | refine q7 ?_ | refine q8 ?_ | refine q9 ?_ | refine qa ?_ | refine qb ?_ | refine qc ?_ | refine qd ?_ | refine qe (by decide) ?_ | refine qf ?_ | refine qg ?_ | ((first | apply aops_all | apply adraw_all); (simp (disch := first | exact List.all_nil | omega | (simp only [go_sem]; done) | (simp only [ln, List.length_map]; omega) | (repeat' first | assumption | exact Ext.refl _ | refine Ext.app ?_ _)) only [go_sem, hl.len, hl.idx, hl.load]; rfl)))); (try ((first | apply aops_until | apply adraw_until); (simp (disch := first | exact List.all_nil | omega | (simp only [go_sem]; done) | (simp only [ln, List.length_map]; omega) | (repeat' first | assumption | exact Ext.refl _ | refine Ext.app ?_ _)) only [go_sem, hl.len, hl.idx, hl.load]; rfl))))
  refine awp_loop_n [true, true, false, false, true, false, true, true, true, false, false, false, false, false, false, false, false, false, false] l.length (fun i e H' => H' = H ∧ e = [v, .int .i64 x, junk, junk, .int .i64 0, junk, v, .int .i64 l.length, .int .i64 i, junk, junk, junk, junk, junk, junk, junk, junk, junk, junk] ∧ ixD x (l.drop i) i = ixD x l 0) ?_ ?_
  · exact ⟨rfl, rfl, rfl⟩
  rintro i e H' hi ⟨rfl, rfl, hp⟩
  ((repeat (first | refine q1 ?_ | refine q2 ?_ | refine q3 ?_ | refine q4 ?_ | refine q5 ?_ | refine q6 ?_ | refine q7 ?_ | refine q8 ?_ | refine q9 ?_ | refine qa ?_ | refine qb ?_ | refine qc ?_ | refine qd ?_ | refine qe (by decide) ?_ | refine qf ?_ | refine qg ?_ | ((first | apply aops_all | apply adraw_all); (simp (disch := first | exact List.all_nil | omega | (simp only [go_sem]; done) | (simp only [ln, List.length_map]; omega) | (repeat' first | assumption | exact Ext.refl _ | refine Ext.app ?_ _)) only [go_sem]; rfl)))); (try ((first | apply aops_until | apply adraw_until); (simp (disch := first | exact List.all_nil | omega | (simp only [go_sem]; done) | (simp only [ln, List.length_map]; omega) | (repeat' first | assumption | exact Ext.refl _ | refine Ext.app ?_ _)) only [go_sem]; rfl))))
  refine cond_p rfl (fun hlt => ?_) (fun hge => ?_)
  · have hi' : i < l.length := by omega
    rw [drop_getD (d := 0) hi', show ∀ a t (n : Int), ixD x (a :: t) n = if x = a then n else ixD x t (n + 1) from fun _ _ _ => rfl] at hp
    ((repeat (first | refine q1 ?_ | refine q2 ?_ | refine q3 ?_ | refine q4 ?_ | refine q5 ?_ | refine q6 ?_ | refine q7 ?_ | refine q8 ?_ | refine q9 ?_ | refine qa ?_ | refine qb ?_ | refine qc ?_ | refine qd ?_ | refine qe (by decide) ?_ | refine qf ?_ | refine qg ?_ | ((first | apply aops_all | apply adraw_all); (simp (disch := first | exact List.all_nil | omega | (simp only [go_sem]; done) | (simp only [ln, List.length_map]; omega) | (repeat' first | assumption | exact Ext.refl _ | refine Ext.app ?_ _)) only [go_sem, hl.len, hl.idx, hl.load]; rfl)))); (try ((first | apply aops_until | apply adraw_until); (simp (disch := first | exact List.all_nil | omega | (simp only [go_sem]; done) | (simp only [ln, List.length_map]; omega) | (repeat' first | assumption | exact Ext.refl _ | refine Ext.app ?_ _)) only [go_sem, hl.len, hl.idx, hl.load]; rfl))))
    refine cond_p rfl (fun he => ?_) (fun he => ?_)
    · rw [if_pos he] at hp
      ((repeat (first | refine q1 ?_ | refine q2 ?_ | refine q3 ?_ | refine q4 ?_ | refine q5 ?_ | refine q6 ?_ | refine q7 ?_ | refine q8 ?_ | refine q9 ?_ | refine qa ?_ | refine qb ?_ | refine qc ?_ | refine qd ?_ | refine qe (by decide) ?_ | refine qf ?_ | refine qg ?_ | ((first | apply aops_all | apply adraw_all); (simp (disch := first | exact List.all_nil | omega | (simp only [go_sem]; done) | (simp only [ln, List.length_map]; omega) | (repeat' first | assumption | exact Ext.refl _ | refine Ext.app ?_ _)) only [go_sem]; rfl)))); (try ((first | apply aops_until | apply adraw_until); (simp (disch := first | exact List.all_nil | omega | (simp only [go_sem]; done) | (simp only [ln, List.length_map]; omega) | (repeat' first | assumption | exact Ext.refl _ | refine Ext.app ?_ _)) only [go_sem]; rfl))))
      exact fin_1 ⟨by rw [← hp]; rfl, rfl⟩
    · rw [if_neg he] at hp
      ((repeat (first | refine q1 ?_ | refine q2 ?_ | refine q3 ?_ | refine q4 ?_ | refine q5 ?_ | refine q6 ?_ | refine q7 ?_ | refine q8 ?_ | refine q9 ?_ | refine qa ?_ | refine qb ?_ | refine qc ?_ | refine qd ?_ | refine qe (by decide) ?_ | refine qf ?_ | refine qg ?_ | ((first | apply aops_all | apply adraw_all); (simp (disch := first | exact List.all_nil | omega | (simp only [go_sem]; done) | (simp only [ln, List.length_map]; omega) | (repeat' first | assumption | exact Ext.refl _ | refine Ext.app ?_ _)) only [go_sem]; rfl)))); (try ((first | apply aops_until | apply adraw_until); (simp (disch := first | exact List.all_nil | omega | (simp only [go_sem]; done) | (simp only [ln, List.length_map]; omega) | (repeat' first | assumption | exact Ext.refl _ | refine Ext.app ?_ _)) only [go_sem]; rfl))))
      exact ⟨by omega, rfl, by simp [forget], by push_cast; exact hp⟩
  · obtain rfl : i = l.length := by omega
    rw [drop_end (Nat.le_refl _)] at hp
    ((repeat (first | refine q1 ?_ | refine q2 ?_ | refine q3 ?_ | refine q4 ?_ | refine q5 ?_ | refine q6 ?_ | refine q7 ?_ | refine q8 ?_ | refine q9 ?_ | refine qa ?_ | refine qb ?_ | refine qc ?_ | refine qd ?_ | refine qe (by decide) ?_ | refine qf ?_ | refine qg ?_ | ((first | apply aops_all | apply adraw_all); (simp (disch := first | exact List.all_nil | omega | (simp only [go_sem]; done) | (simp only [ln, List.length_map]; omega) | (repeat' first | assumption | exact Ext.refl _ | refine Ext.app ?_ _)) only [go_sem]; rfl)))); (try ((first | apply aops_until | apply adraw_until); (simp (disch := first | exact List.all_nil | omega | (simp only [go_sem]; done) | (simp only [ln, List.length_map]; omega) | (repeat' first | assumption | exact Ext.refl _ | refine Ext.app ?_ _)) only [go_sem]; rfl))))
    exact fin_1 ⟨by rw [← hp]; rfl, rfl⟩

theorem best1_c : AsksAt H (.func (.func 91) #[] #[]) (fun _ => true) := fun n => by
  show ACall _ _ _ _ _
  simp only [List.append_nil, List.nil_append]
  (refine a91 ?_; simp only [n91, List.replicate, List.length_cons, List.length_nil, List.cons_append, List.nil_append])
  ((repeat (first | refine q1 ?_ | refine q2 ?_ | refine q3 ?_ | refine q4 ?_ | refine q5 ?_ | refine q6 ?_ | refine q7 ?_ | refine q8 ?_ | refine q9 ?_ | refine qa ?_ | refine qb ?_ | refine qc ?_ | refine qd ?_ | refine qe (by decide) ?_ | refine qf ?_ | refine qg ?_ | ((first | apply aops_all | apply adraw_all); (simp (disch := first | exact List.all_nil | omega | (simp only [go_sem]; done) | (simp only [ln, List.length_map]; omega) | (repeat' first | assumption | exact Ext.refl _ | refine Ext.app ?_ _)) only [go_sem]; rfl)))); (try ((first | apply aops_until | apply adraw_until); (simp (disch := first | exact List.all_nil | omega | (simp only [go_sem]; done) | (simp only [ln, List.length_map]; omega) | (repeat' first | assumption | exact Ext.refl _ | refine Ext.app ?_ _)) only [go_sem]; rfl))))
  exact fin_1 ⟨rfl, rfl⟩

theorem turn1_c {id1 id2 : Nat} {a b : Int} (h1 : H[id1]? = some (.cells true 0 [.int .i64 a])) (h2 : H[id2]? = some (.cells true 0 [.int .i64 b])) (hab : -1000000 ≤ a + b ∧ a + b ≤ 1000000) :
    AsksAt H (.func (.func 97) #[] #[.pointer (some ⟨id1, 0, none⟩), .pointer (some ⟨id2, 0, none⟩)]) (fun n => decide (n = a + b)) := fun n => by
  show ACall _ _ _ _ _
  simp only [List.append_nil, List.nil_append, List.cons_append]
  (refine a97 ?_; simp only [n97, List.replicate, List.length_cons, List.length_nil, List.cons_append, List.nil_append])
  ((repeat (first | refine q1 ?_ | refine q2 ?_ | refine q3 ?_ | refine q4 ?_ | refine q5 ?_ | refine q6 ?_ | refine q7 ?_ | refine q8 ?_ | refine q9 ?_ | refine qa ?_ | refine qb ?_ | refine qc ?_ | refine qd ?_ | refine qe (by decide) ?_ | refine qf ?_ | refine qg ?_ | ((first | apply aops_all | apply adraw_all); (simp (disch := first | exact List.all_nil | omega | (simp only [go_sem]; done) | (simp only [ln, List.length_map]; omega) | (repeat' first | assumption | exact Ext.refl _ | refine Ext.app ?_ _)) only [go_sem, load_at h1, load_at h2]; rfl)))); (try ((first | apply aops_until | apply adraw_until); (simp (disch := first | exact List.all_nil | omega | (simp only [go_sem]; done) | (simp only [ln, List.length_map]; omega) | (repeat' first | assumption | exact Ext.refl _ | refine Ext.app ?_ _)) only [go_sem, load_at h1, load_at h2]; rfl))))
  exact fin_1 ⟨rfl, rfl⟩
end
end Go.Lq

namespace Go.Lq
open Go
open Go.Proofs

def bestCost (ll : List (List Int)) (bend : Int) : Int := minTo (restRow ll bend (fun _ => true) (ll.length - 1)) (ll.getD 0 []).length
def bestP (ll : List (List Int)) (bend : Int) : List Int × Int × Int :=
  if taskErrL ll bend = 0 then (followL ll bend (fun _ => true) (ll.length - 1) (ixD (bestCost ll bend) (restRow ll bend (fun _ => true) (ll.length - 1)) 0).toNat, bestCost ll bend, 0)
  else ([], 0, taskErrL ll bend)
theorem store_newT {H : AHeap} {v x y : Value} {b : Int} (hv : isAtom v = true) : storeR 2 (.pointer (some ⟨H.length, 0, none⟩)) (.agg ⟨[v, .int .i64 b]⟩) (H ++ [.cells true 0 [x, y]]) = some (undef, H ++ [.cells true 0 [v, .int .i64 b]]) := by
  rw [store_at2v (at_new : (H ++ [AObj.cells true 0 [x, y]])[H.length]? = _) hv (isAtom_int .i64 b)]
  simp
theorem best_at {ll : List (List Int)} {bend : Int} (hg : gridErrL 40 12 ll = 0) : ∃ c : Nat, ixD (bestCost ll bend) (restRow ll bend (fun _ => true) (ll.length - 1)) 0 = (c : Int) ∧ c < (ll.getD 0 []).length ∧
    restK ll bend (fun _ => true) (ll.length - 1) c = bestCost ll bend ∧ restK ll bend (fun _ => true) (ll.length - 1) c < 1000000 := by
  obtain ⟨w1, w2, w3, w4, w5, w6⟩ := gridErr_ok hg
  obtain ⟨i, hi, he⟩ := minTo_at (l := restRow ll bend (fun _ => true) (ll.length - 1)) w2
  obtain ⟨j, h1, h2, h3⟩ := ixD_at (x := bestCost ll bend) (l := restRow ll bend (fun _ => true) (ll.length - 1)) (i := i) 0 (by rw [restRow_len]; exact hi) he
  rw [restRow_len] at h2
  rw [restRow_getD h2] at h3
  have := restK_true (bend := bend) w6 h2 (ll.length - 1)
  exact ⟨j, by rw [h1]; omega, h2, h3, by omega⟩

section
variable {H : AHeap}
theorem bestPath_c {ll : List (List Int)} {vs : List Value} {v : Value} {bend : Int} (hx0 : Ext H0 H) (hL : Lists H ll vs v) (hb : ll.length ≤ 1000000000) (hr : ∀ i, i < ll.length → (ll.getD i []).length ≤ 1000000000) :
    ACall Go.Proofs.Tryd.prog 23 [.agg ⟨[v, .int .i64 bend]⟩] H fun v1 H' => v1 = .tuple #[retV H (bestP ll bend).1.length, .int .i64 (bestP ll bend).2.1, .int .i64 (bestP ll bend).2.2] ∧
      H' = H ++ retN 1 (bestP ll bend).1.length ((bestP ll bend).1.map (.int .i64)) := by
  refine ACall.tidy (f := fun s => .tuple #[s, .int .i64 (bestP ll bend).2.1, .int .i64 (bestP ll bend).2.2]) (wraps_2 (.int _ _) (.int _ _)) (closed_ints _) ?_
  (refine a23 ?_; simp only [n23, List.replicate, List.length_cons, List.length_nil, List.cons_append, List.nil_append])
  ((repeat (first | refine q1 ?_ | refine q2 ?_ | refine q3 ?_ | refine q4 ?_ | refine q5 ?_ | refine q6 ?_ | refine q7 ?_ | refine q8 ?_ | refine q9 ?_ | refine qa ?_ | refine qb ?_ | refine qc ?_ | refine qd ?_ | refine qe (by decide) ?_ | refine qf ?_ | refine qg ?_ | ((first | apply aops_all | apply adraw_all); (simp (disch := first | exact List.all_nil | omega | (simp only [go_sem]; done) | (simp only [ln, List.length_map]; omega) | (repeat' first | assumption | exact Ext.refl _ | refine Ext.app ?_ _)) only [go_sem, hL.box2]; rfl)))); (try ((first | apply aops_until | apply adraw_until); (simp (disch := first | exact List.all_nil | omega | (simp only [go_sem]; done) | (simp only [ln, List.length_map]; omega) | (repeat' first | assumption | exact Ext.refl _ | refine Ext.app ?_ _)) only [go_sem, hL.box2]; rfl))))
  refine aops_call ((open_c (bend := bend) (hL.ext ((Ext.refl H).app [AObj.cells true 0 [v, .int .i64 bend]])) hb hr).mono fun v1 H1 ⟨e1, x11⟩ => ?_)
  subst e1
  have xH : Ext H H1 := ((Ext.refl H).app _).trans x11
  ((repeat (first | refine q1 ?_ | refine q2 ?_ | refine q3 ?_ | refine q4 ?_ | refine q5 ?_ | refine q6 ?_ | refine q7 ?_ | refine q8 ?_ | refine q9 ?_ | refine qa ?_ | refine qb ?_ | refine qc ?_ | refine qd ?_ | refine qe (by decide) ?_ | refine qf ?_ | refine qg ?_ | ((first | apply aops_all | apply adraw_all); (simp (disch := first | exact List.all_nil | omega | (simp only [go_sem]; done) | (simp only [ln, List.length_map]; omega) | (repeat' first | assumption | exact Ext.refl _ | refine Ext.app ?_ _)) only [go_sem, store_newT hL.atom]; rfl)))); (try ((first | apply aops_until | apply adraw_until); (simp (disch := first | exact List.all_nil | omega | (simp only [go_sem]; done) | (simp only [ln, List.length_map]; omega) | (repeat' first | assumption | exact Ext.refl _ | refine Ext.app ?_ _)) only [go_sem, store_newT hL.atom]; rfl))))
  have x2 : Ext H (H1 ++ [AObj.cells true 0 [v, .int .i64 bend]]) := xH.app _
  refine cond_p rfl (fun hne => ?_) (fun he => ?_)
  · ((repeat (first | refine q1 ?_ | refine q2 ?_ | refine q3 ?_ | refine q4 ?_ | refine q5 ?_ | refine q6 ?_ | refine q7 ?_ | refine q8 ?_ | refine q9 ?_ | refine qa ?_ | refine qb ?_ | refine qc ?_ | refine qd ?_ | refine qe (by decide) ?_ | refine qf ?_ | refine qg ?_ | ((first | apply aops_all | apply adraw_all); (simp (disch := first | exact List.all_nil | omega | (simp only [go_sem]; done) | (simp only [ln, List.length_map]; omega) | (repeat' first | assumption | exact Ext.refl _ | refine Ext.app ?_ _)) only [go_sem]; rfl)))); (try ((first | apply aops_until | apply adraw_until); (simp (disch := first | exact List.all_nil | omega | (simp only [go_sem]; done) | (simp only [ln, List.length_map]; omega) | (repeat' first | assumption | exact Ext.refl _ | refine Ext.app ?_ _)) only [go_sem]; rfl))))
    have eb : bestP ll bend = ([], 0, taskErrL ll bend) := by unfold bestP; rw [if_neg hne]
    rw [eb]
    exact fin_3 ⟨_, rfl, x2, Own.nil _ _ _⟩
  have hte : taskErrL ll bend = 0 ∧ gridErrL 40 12 ll = 0 ∧ 0 ≤ bend ∧ bend ≤ 1000 := by
    have h0 : taskErrL ll bend = 0 := Decidable.not_not.1 he
    refine ⟨h0, ?_⟩
    unfold taskErrL at h0
    split at h0
    · rename_i h1
      split at h0
      · rename_i h2; exact ⟨h1, h2⟩
      · exact absurd h0 (by decide)
    · rename_i h1; exact absurd h0 h1
  obtain ⟨hte, hg, hbb⟩ := hte
  obtain ⟨w1, w2, w3, w4, w5, w6⟩ := gridErr_ok hg
  have g2 : (H1 ++ [AObj.cells true 0 [v, .int .i64 bend]])[H1.length]? = some (.cells true 0 [v, .int .i64 bend]) := at_new
  generalize (H1 ++ [AObj.cells true 0 [v, .int .i64 bend]] : AHeap) = H2 at x2 g2
  ((repeat (first | refine q1 ?_ | refine q2 ?_ | refine q3 ?_ | refine q4 ?_ | refine q5 ?_ | refine q6 ?_ | refine q7 ?_ | refine q8 ?_ | refine q9 ?_ | refine qa ?_ | refine qb ?_ | refine qc ?_ | refine qd ?_ | refine qe (by decide) ?_ | refine qf ?_ | refine qg ?_ | ((first | apply aops_all | apply adraw_all); (simp (disch := first | exact List.all_nil | omega | (simp only [go_sem]; done) | (simp only [ln, List.length_map]; omega) | (repeat' first | assumption | exact Ext.refl _ | refine Ext.app ?_ _)) only [go_sem, loadN_at g2]; rfl)))); (try ((first | apply aops_until | apply adraw_until); (simp (disch := first | exact List.all_nil | omega | (simp only [go_sem]; done) | (simp only [ln, List.length_map]; omega) | (repeat' first | assumption | exact Ext.refl _ | refine Ext.app ?_ _)) only [go_sem, loadN_at g2]; rfl))))
  refine aops_call ((rest_c (p := fun _ => true) (hx0.trans x2) (hL.ext x2) hg hbb fun H' _ => best1_c).mono fun v1 H3 ⟨e1, e2⟩ => ?_)
  subst e1
  have hol := OwnL.ret (H0 := H2) (H := H2) (ll := restTab ll bend fun c : Nat => (fun _ : Int => true) c) (Nat.le_refl _)
  rw [← e2] at hol
  have x3 : Ext H2 H3 := ⟨_, e2⟩
  generalize retLV H2 (restTab ll bend fun c : Nat => (fun _ : Int => true) c) = tv at hol
  obtain ⟨rs, hT⟩ := hol.lists
  have hTl : (restTab ll bend fun _ => true).length = ll.length := by simp [restTab]
  have hR0 := hT.row (k := 0) (by rw [hTl]; exact w1)
  have hT0 : (restTab ll bend fun _ => true).getD 0 [] = restRow ll bend (fun _ => true) (ll.length - 1) := by
    rw [← partT_zero, partT_getD w1 (Nat.zero_le _), Nat.sub_zero]
  rw [hT0] at hR0
  have hrl := restRow_len (ll := ll) (bend := bend) (isL := fun _ => true) (ll.length - 1)
  obtain ⟨c, hix, hcw, hcc, hlt⟩ := best_at (bend := bend) hg
  have eb : bestP ll bend = (followL ll bend (fun _ => true) (ll.length - 1) c, bestCost ll bend, 0) := by
    unfold bestP
    rw [if_pos hte, hix]; rfl
  rw [eb]
  have g3 := x3.cell g2
  have emin : minTo (restRow ll bend (fun _ => true) (ll.length - 1)) (restRow ll bend (fun _ => true) (ll.length - 1)).length = bestCost ll bend := by rw [hrl]; rfl
  clear e2
  have hmc := min_c hR0 (by omega) (by omega)
  rw [emin] at hmc
  ((repeat (first | refine q1 ?_ | refine q2 ?_ | refine q3 ?_ | refine q4 ?_ | refine q5 ?_ | refine q6 ?_ | refine q7 ?_ | refine q8 ?_ | refine q9 ?_ | refine qa ?_ | refine qb ?_ | refine qc ?_ | refine qd ?_ | refine qe (by decide) ?_ | refine qf ?_ | refine qg ?_ | ((first | apply aops_all | apply adraw_all); (simp (disch := first | exact List.all_nil | omega | (simp only [go_sem]; done) | (simp only [ln, List.length_map]; omega) | (repeat' first | assumption | exact Ext.refl _ | refine Ext.app ?_ _)) only [go_sem, hT.len, hT.idx, hT.load, show (0 : Int).toNat = 0 from rfl]; rfl)))); (try ((first | apply aops_until | apply adraw_until); (simp (disch := first | exact List.all_nil | omega | (simp only [go_sem]; done) | (simp only [ln, List.length_map]; omega) | (repeat' first | assumption | exact Ext.refl _ | refine Ext.app ?_ _)) only [go_sem, hT.len, hT.idx, hT.load, show (0 : Int).toNat = 0 from rfl]; rfl))))
  refine aops_call_to hmc ?_
  ((repeat (first | refine q1 ?_ | refine q2 ?_ | refine q3 ?_ | refine q4 ?_ | refine q5 ?_ | refine q6 ?_ | refine q7 ?_ | refine q8 ?_ | refine q9 ?_ | refine qa ?_ | refine qb ?_ | refine qc ?_ | refine qd ?_ | refine qe (by decide) ?_ | refine qf ?_ | refine qg ?_ | ((first | apply aops_all | apply adraw_all); (simp (disch := first | exact List.all_nil | omega | (simp only [go_sem]; done) | (simp only [ln, List.length_map]; omega) | (repeat' first | assumption | exact Ext.refl _ | refine Ext.app ?_ _)) only [go_sem, hT.len, hT.idx, hT.load, show (0 : Int).toNat = 0 from rfl, loadN_at g3]; rfl)))); (try ((first | apply aops_until | apply adraw_until); (simp (disch := first | exact List.all_nil | omega | (simp only [go_sem]; done) | (simp only [ln, List.length_map]; omega) | (repeat' first | assumption | exact Ext.refl _ | refine Ext.app ?_ _)) only [go_sem, hT.len, hT.idx, hT.load, show (0 : Int).toNat = 0 from rfl, loadN_at g3]; rfl))))
  have hic := index_c (x := bestCost ll bend) hR0 (by omega)
  rw [hix] at hic
  refine adraw_call (N := []) (firstD hic) ?_
  rw [List.append_nil]
  ((repeat (first | refine q1 ?_ | refine q2 ?_ | refine q3 ?_ | refine q4 ?_ | refine q5 ?_ | refine q6 ?_ | refine q7 ?_ | refine q8 ?_ | refine q9 ?_ | refine qa ?_ | refine qb ?_ | refine qc ?_ | refine qd ?_ | refine qe (by decide) ?_ | refine qf ?_ | refine qg ?_ | ((first | apply aops_all | apply adraw_all); (simp (disch := first | exact List.all_nil | omega | (simp only [go_sem]; done) | (simp only [ln, List.length_map]; omega) | (repeat' first | assumption | exact Ext.refl _ | refine Ext.app ?_ _)) only [go_sem]; rfl)))); (try ((first | apply aops_until | apply adraw_until); (simp (disch := first | exact List.all_nil | omega | (simp only [go_sem]; done) | (simp only [ln, List.length_map]; omega) | (repeat' first | assumption | exact Ext.refl _ | refine Ext.app ?_ _)) only [go_sem]; rfl))))
  refine adraw_call (follow_c (c0 := c) (hL.ext (x2.trans x3)) hT hg hbb hcw hlt) ?_
  ((repeat (first | refine q1 ?_ | refine q2 ?_ | refine q3 ?_ | refine q4 ?_ | refine q5 ?_ | refine q6 ?_ | refine q7 ?_ | refine q8 ?_ | refine q9 ?_ | refine qa ?_ | refine qb ?_ | refine qc ?_ | refine qd ?_ | refine qe (by decide) ?_ | refine qf ?_ | refine qg ?_ | ((first | apply aops_all | apply adraw_all); (simp (disch := first | exact List.all_nil | omega | (simp only [go_sem]; done) | (simp only [ln, List.length_map]; omega) | (repeat' first | assumption | exact Ext.refl _ | refine Ext.app ?_ _)) only [go_sem]; rfl)))); (try ((first | apply aops_until | apply adraw_until); (simp (disch := first | exact List.all_nil | omega | (simp only [go_sem]; done) | (simp only [ln, List.length_map]; omega) | (repeat' first | assumption | exact Ext.refl _ | refine Ext.app ?_ _)) only [go_sem]; rfl))))
  exact fin_3 ⟨_, rfl, (x2.trans x3).app _, OwnI.ret_own (by have := (x2.trans x3).len; omega)⟩
end
end Go.Lq

namespace Go.Lq
open Go
open Go.Proofs

def turnR (ll : List (List Int)) (bend p : Int) (c : Nat) : Int := restK ll bend (fun d => decide ((d : Int) = (c : Int) + p)) (ll.length - 1) c
def turnF (ll : List (List Int)) (bend p : Int) (c : Nat) : List Int := followL ll bend (fun d => decide ((d : Int) = (c : Int) + p)) (ll.length - 1) c
def turnGo (ll : List (List Int)) (bend p : Int) : Nat → List Int × Int
  | 0 => ([], 1000000)
  | i + 1 => if turnR ll bend p i < (turnGo ll bend p i).2 then (turnF ll bend p i, turnR ll bend p i) else turnGo ll bend p i
def turnErrL (ll : List (List Int)) (bend p : Int) : Int := if taskErrL ll bend = 0 then (if -12 ≤ p ∧ p ≤ 12 then 0 else 2) else taskErrL ll bend
def turnP (ll : List (List Int)) (bend p : Int) : List Int × Int × Int :=
  if turnErrL ll bend p = 0 then (if (turnGo ll bend p (ll.getD 0 []).length).2 = 1000000 then ([], 0, 12) else ((turnGo ll bend p (ll.getD 0 []).length).1, (turnGo ll bend p (ll.getD 0 []).length).2, 0))
  else ([], 0, turnErrL ll bend p)
theorem turnGo_le (ll : List (List Int)) (bend p : Int) : ∀ i, (turnGo ll bend p i).2 ≤ 1000000
  | 0 => Int.le_refl _
  | i + 1 => by
    have := turnGo_le ll bend p i
    unfold turnGo
    split
    · show turnR ll bend p i ≤ _; omega
    · exact this

section
variable {H : AHeap}
set_option maxHeartbeats 1000000 in
theorem turnPath_c {ll : List (List Int)} {vs : List Value} {v : Value} {bend p : Int} (hx0 : Ext H0 H) (hL : Lists H ll vs v) (hb : ll.length ≤ 1000000000) (hr : ∀ i, i < ll.length → (ll.getD i []).length ≤ 1000000000) :
    ACall Go.Proofs.Tryd.prog 25 [.agg ⟨[v, .int .i64 bend]⟩, .int .i64 p] H fun v1 H' => v1 = .tuple #[retV H (turnP ll bend p).1.length, .int .i64 (turnP ll bend p).2.1, .int .i64 (turnP ll bend p).2.2] ∧
      H' = H ++ retN 1 (turnP ll bend p).1.length ((turnP ll bend p).1.map (.int .i64)) := by
  refine ACall.tidy (f := fun s => .tuple #[s, .int .i64 (turnP ll bend p).2.1, .int .i64 (turnP ll bend p).2.2]) (wraps_2 (.int _ _) (.int _ _)) (closed_ints _) ?_
  (refine a25 ?_; simp only [n25, List.replicate, List.length_cons, List.length_nil, List.cons_append, List.nil_append])
  ((repeat (first | refine q1 ?_ | refine q2 ?_ | refine q3 ?_ | refine q4 ?_ | refine q5 ?_ | refine q6 ?_ | refine q7 ?_ | refine q8 ?_ | refine q9 ?_ | refine qa ?_ | refine qb ?_ | refine qc ?_ | refine qd ?_ | refine qe (by decide) ?_ | refine qf ?_ | refine qg ?_ | ((first | apply aops_all | apply adraw_all); (simp (disch := first | exact List.all_nil | omega | (simp only [go_sem]; done) | (simp only [ln, List.length_map]; omega) | (repeat' first | assumption | exact Ext.refl _ | refine Ext.app ?_ _)) only [go_sem, hL.box2]; rfl)))); (try ((first | apply aops_until | apply adraw_until); (simp (disch := first | exact List.all_nil | omega | (simp only [go_sem]; done) | (simp only [ln, List.length_map]; omega) | (repeat' first | assumption | exact Ext.refl _ | refine Ext.app ?_ _)) only [go_sem, hL.box2]; rfl))))
  have a0 : (H ++ [AObj.cells true 0 [v, .int .i64 bend]] ++ [AObj.cells true 0 [.int .i64 p]])[H.length]? = some (.cells true 0 [v, .int .i64 bend]) := at_app at_new
  have a1 : (H ++ [AObj.cells true 0 [v, .int .i64 bend]] ++ [AObj.cells true 0 [.int .i64 p]])[H.length + 1]? = some (.cells true 0 [.int .i64 p]) := by simp
  have xa : Ext H (H ++ [AObj.cells true 0 [v, .int .i64 bend]] ++ [AObj.cells true 0 [.int .i64 p]]) := ((Ext.refl H).app _).app _
  (simp only [List.length_append, List.length_cons, List.length_nil, Nat.zero_add, Nat.add_assoc, Nat.reduceAdd])
  generalize (H ++ [AObj.cells true 0 [v, .int .i64 bend]] ++ [AObj.cells true 0 [.int .i64 p]] : AHeap) = Ha at a0 a1 xa
  ((repeat (first | refine q1 ?_ | refine q2 ?_ | refine q3 ?_ | refine q4 ?_ | refine q5 ?_ | refine q6 ?_ | refine q7 ?_ | refine q8 ?_ | refine q9 ?_ | refine qa ?_ | refine qb ?_ | refine qc ?_ | refine qd ?_ | refine qe (by decide) ?_ | refine qf ?_ | refine qg ?_ | ((first | apply aops_all | apply adraw_all); (simp (disch := first | exact List.all_nil | omega | (simp only [go_sem]; done) | (simp only [ln, List.length_map]; omega) | (repeat' first | assumption | exact Ext.refl _ | refine Ext.app ?_ _)) only [go_sem, loadN_at a0]; rfl)))); (try ((first | apply aops_until | apply adraw_until); (simp (disch := first | exact List.all_nil | omega | (simp only [go_sem]; done) | (simp only [ln, List.length_map]; omega) | (repeat' first | assumption | exact Ext.refl _ | refine Ext.app ?_ _)) only [go_sem, loadN_at a0]; rfl))))
  refine aops_call ((open_c (bend := bend) (hL.ext xa) hb hr).mono fun v1 H1 ⟨e1, x1⟩ => ?_)
  subst e1
  have a1' := x1.cell a1
  ((repeat (first | refine q1 ?_ | refine q2 ?_ | refine q3 ?_ | refine q4 ?_ | refine q5 ?_ | refine q6 ?_ | refine q7 ?_ | refine q8 ?_ | refine q9 ?_ | refine qa ?_ | refine qb ?_ | refine qc ?_ | refine qd ?_ | refine qe (by decide) ?_ | refine qf ?_ | refine qg ?_ | ((first | apply aops_all | apply adraw_all); (simp (disch := first | exact List.all_nil | omega | (simp only [go_sem]; done) | (simp only [ln, List.length_map]; omega) | (repeat' first | assumption | exact Ext.refl _ | refine Ext.app ?_ _)) only [go_sem, store_newT hL.atom]; rfl)))); (try ((first | apply aops_until | apply adraw_until); (simp (disch := first | exact List.all_nil | omega | (simp only [go_sem]; done) | (simp only [ln, List.length_map]; omega) | (repeat' first | assumption | exact Ext.refl _ | refine Ext.app ?_ _)) only [go_sem, store_newT hL.atom]; rfl))))
  have x2 : Ext H1 (H1 ++ [AObj.cells true 0 [v, .int .i64 bend]]) := (Ext.refl _).app _
  have g2 : (H1 ++ [AObj.cells true 0 [v, .int .i64 bend]])[H1.length]? = some (.cells true 0 [v, .int .i64 bend]) := at_new
  have g1 := x2.cell a1'
  have xH := (xa.trans x1).trans x2
  generalize (H1 ++ [AObj.cells true 0 [v, .int .i64 bend]] : AHeap) = H2 at x2 g2 g1 xH
  ((repeat (first | refine q1 ?_ | refine q2 ?_ | refine q3 ?_ | refine q4 ?_ | refine q5 ?_ | refine q6 ?_ | refine q7 ?_ | refine q8 ?_ | refine q9 ?_ | refine qa ?_ | refine qb ?_ | refine qc ?_ | refine qd ?_ | refine qe (by decide) ?_ | refine qf ?_ | refine qg ?_ | ((first | apply aops_all | apply adraw_all); (simp (disch := first | exact List.all_nil | omega | (simp only [go_sem]; done) | (simp only [ln, List.length_map]; omega) | (repeat' first | assumption | exact Ext.refl _ | refine Ext.app ?_ _)) only [go_sem, load_at g1]; rfl)))); (try ((first | apply aops_until | apply adraw_until); (simp (disch := first | exact List.all_nil | omega | (simp only [go_sem]; done) | (simp only [ln, List.length_map]; omega) | (repeat' first | assumption | exact Ext.refl _ | refine Ext.app ?_ _)) only [go_sem, load_at g1]; rfl))))
  refine aops_call_to (isSized_c _ _ (by omega)) ?_
  ((repeat (first | refine q1 ?_ | refine q2 ?_ | refine q3 ?_ | refine q4 ?_ | refine q5 ?_ | refine q6 ?_ | refine q7 ?_ | refine q8 ?_ | refine q9 ?_ | refine qa ?_ | refine qb ?_ | refine qc ?_ | refine qd ?_ | refine qe (by decide) ?_ | refine qf ?_ | refine qg ?_ | ((first | apply aops_all | apply adraw_all); (simp (disch := first | exact List.all_nil | omega | (simp only [go_sem]; done) | (simp only [ln, List.length_map]; omega) | (repeat' first | assumption | exact Ext.refl _ | refine Ext.app ?_ _)) only [go_sem]; rfl)))); (try ((first | apply aops_until | apply adraw_until); (simp (disch := first | exact List.all_nil | omega | (simp only [go_sem]; done) | (simp only [ln, List.length_map]; omega) | (repeat' first | assumption | exact Ext.refl _ | refine Ext.app ?_ _)) only [go_sem]; rfl))))
  refine aops_call_to (unless_c _ _) ?_
  ((repeat (first | refine q1 ?_ | refine q2 ?_ | refine q3 ?_ | refine q4 ?_ | refine q5 ?_ | refine q6 ?_ | refine q7 ?_ | refine q8 ?_ | refine q9 ?_ | refine qa ?_ | refine qb ?_ | refine qc ?_ | refine qd ?_ | refine qe (by decide) ?_ | refine qf ?_ | refine qg ?_ | ((first | apply aops_all | apply adraw_all); (simp (disch := first | exact List.all_nil | omega | (simp only [go_sem]; done) | (simp only [ln, List.length_map]; omega) | (repeat' first | assumption | exact Ext.refl _ | refine Ext.app ?_ _)) only [go_sem]; rfl)))); (try ((first | apply aops_until | apply adraw_until); (simp (disch := first | exact List.all_nil | omega | (simp only [go_sem]; done) | (simp only [ln, List.length_map]; omega) | (repeat' first | assumption | exact Ext.refl _ | refine Ext.app ?_ _)) only [go_sem]; rfl))))
  refine aops_call_to (first_c (l := [_, _]) (Ints.last (l := [_, _]) 2) (by simp)) ?_
  have he : firstErr [taskErrL ll bend, if decide (-12 ≤ p ∧ p ≤ 12) = true then 0 else 2] = turnErrL ll bend p := by
    unfold firstErr turnErrL
    by_cases h1 : taskErrL ll bend = 0
    · by_cases h2 : -12 ≤ p ∧ p ≤ 12 <;> simp [h1, h2]
    · simp [h1]
  rw [he]
  ((repeat (first | refine q1 ?_ | refine q2 ?_ | refine q3 ?_ | refine q4 ?_ | refine q5 ?_ | refine q6 ?_ | refine q7 ?_ | refine q8 ?_ | refine q9 ?_ | refine qa ?_ | refine qb ?_ | refine qc ?_ | refine qd ?_ | refine qe (by decide) ?_ | refine qf ?_ | refine qg ?_ | ((first | apply aops_all | apply adraw_all); (simp (disch := first | exact List.all_nil | omega | (simp only [go_sem]; done) | (simp only [ln, List.length_map]; omega) | (repeat' first | assumption | exact Ext.refl _ | refine Ext.app ?_ _)) only [go_sem]; rfl)))); (try ((first | apply aops_until | apply adraw_until); (simp (disch := first | exact List.all_nil | omega | (simp only [go_sem]; done) | (simp only [ln, List.length_map]; omega) | (repeat' first | assumption | exact Ext.refl _ | refine Ext.app ?_ _)) only [go_sem]; rfl))))
  have x3 : Ext H2 (H2 ++ [AObj.cells true 1 [.int .i64 (taskErrL ll bend), .int .i64 (if decide (-12 ≤ p ∧ p ≤ 12) = true then 0 else 2)]]) := (Ext.refl _).app _
  generalize (H2 ++ [AObj.cells true 1 [.int .i64 (taskErrL ll bend), .int .i64 (if decide (-12 ≤ p ∧ p ≤ 12) = true then 0 else 2)]] : AHeap) = H3 at x3
  refine cond_p rfl (fun hne => ?_) (fun hen => ?_)
  · ((repeat (first | refine q1 ?_ | refine q2 ?_ | refine q3 ?_ | refine q4 ?_ | refine q5 ?_ | refine q6 ?_ | refine q7 ?_ | refine q8 ?_ | refine q9 ?_ | refine qa ?_ | refine qb ?_ | refine qc ?_ | refine qd ?_ | refine qe (by decide) ?_ | refine qf ?_ | refine qg ?_ | ((first | apply aops_all | apply adraw_all); (simp (disch := first | exact List.all_nil | omega | (simp only [go_sem]; done) | (simp only [ln, List.length_map]; omega) | (repeat' first | assumption | exact Ext.refl _ | refine Ext.app ?_ _)) only [go_sem]; rfl)))); (try ((first | apply aops_until | apply adraw_until); (simp (disch := first | exact List.all_nil | omega | (simp only [go_sem]; done) | (simp only [ln, List.length_map]; omega) | (repeat' first | assumption | exact Ext.refl _ | refine Ext.app ?_ _)) only [go_sem]; rfl))))
    have eb : turnP ll bend p = ([], 0, turnErrL ll bend p) := by unfold turnP; rw [if_neg hne]
    rw [eb]
    exact fin_3 ⟨_, rfl, xH.trans x3, Own.nil _ _ _⟩
  have hte : turnErrL ll bend p = 0 := Decidable.not_not.1 hen
  have hfa : taskErrL ll bend = 0 ∧ -12 ≤ p ∧ p ≤ 12 := by
    have h0 := hte
    unfold turnErrL at h0
    split at h0
    · rename_i h1
      split at h0
      · rename_i h2; exact ⟨h1, h2⟩
      · exact absurd h0 (by decide)
    · rename_i h1; exact absurd h0 h1
  obtain ⟨htk, hp⟩ := hfa
  have hfb : gridErrL 40 12 ll = 0 ∧ 0 ≤ bend ∧ bend ≤ 1000 := by
    have h0 := htk
    unfold taskErrL at h0
    split at h0
    · rename_i h1
      split at h0
      · rename_i h2; exact ⟨h1, h2⟩
      · exact absurd h0 (by decide)
    · rename_i h1; exact absurd h0 h1
  obtain ⟨hg, hbb⟩ := hfb
  obtain ⟨w1, w2, w3, w4, w5, w6⟩ := gridErr_ok hg
  have g23 := x3.cell g2
  have g13 := x3.cell g1
  have xH3 := xH.trans x3
  ((repeat (first | refine q1 ?_ | refine q2 ?_ | refine q3 ?_ | refine q4 ?_ | refine q5 ?_ | refine q6 ?_ | refine q7 ?_ | refine q8 ?_ | refine q9 ?_ | refine qa ?_ | refine qb ?_ | refine qc ?_ | refine qd ?_ | refine qe (by decide) ?_ | refine qf ?_ | refine qg ?_ | ((first | apply aops_all | apply adraw_all); (simp (disch := first | exact List.all_nil | omega | (simp only [go_sem]; done) | (simp only [ln, List.length_map]; omega) | (repeat' first | assumption | exact Ext.refl _ | refine Ext.app ?_ _)) only [go_sem, loadN_at g23]; rfl)))); (try ((first | apply aops_until | apply adraw_until); (simp (disch := first | exact List.all_nil | omega | (simp only [go_sem]; done) | (simp only [ln, List.length_map]; omega) | (repeat' first | assumption | exact Ext.refl _ | refine Ext.app ?_ _)) only [go_sem, loadN_at g23]; rfl))))
  refine aops_call_to (columns_c (hL.ext xH3) w1) ?_
  ((repeat (first | refine q1 ?_ | refine q2 ?_ | refine q3 ?_ | refine q4 ?_ | refine q5 ?_ | refine q6 ?_ | refine q7 ?_ | refine q8 ?_ | refine q9 ?_ | refine qa ?_ | refine qb ?_ | refine qc ?_ | refine qd ?_ | refine qe (by decide) ?_ | refine qf ?_ | refine qg ?_ | ((first | apply aops_all | apply adraw_all); (simp (disch := first | exact List.all_nil | omega | (simp only [go_sem]; done) | (simp only [ln, List.length_map]; omega) | (repeat' first | assumption | exact Ext.refl _ | refine Ext.app ?_ _)) only [go_sem]; rfl)))); (try ((first | apply aops_until | apply adraw_until); (simp (disch := first | exact List.all_nil | omega | (simp only [go_sem]; done) | (simp only [ln, List.length_map]; omega) | (repeat' first | assumption | exact Ext.refl _ | refine Ext.app ?_ _)) only [go_sem]; rfl))))
  refine awp_loop_n [false, false, false, true, false, false, false, true, false, true, true, false, false, false, false, false, false, false, false, false, false, false, false, false, false, false, false, false, false, true, true, false, false, false, false, false, false, false, false, false, false, false, false, false, false, false, false, false, false, false, false, false, false, false, false] (ll.getD 0 []).length (fun i e H' => ∃ pv, e = [junk, junk, junk, .pointer (some ⟨H.length + 1, 0, none⟩), junk, junk, junk, .pointer (some ⟨H1.length, 0, none⟩), junk, pv, .int .i64 (turnGo ll bend p i).2, junk, junk, junk, junk, junk, junk, junk, junk, junk, junk, junk, junk, junk, junk, junk, junk, junk, junk, .int .i64 ((ll.getD 0 []).length : Nat), .int .i64 i, junk, junk, junk, junk, junk, junk, junk, junk, junk, junk, junk, junk, junk, junk, junk, junk, junk, junk, junk, junk, junk, junk, junk, junk] ∧ Ext H3 H' ∧ OwnI H H' (turnGo ll bend p i).1 pv) ?_ ?_
  · exact ⟨_, by simp [forget, turnGo], Ext.refl _, OwnI.nil _ _⟩
  rintro i e H4 hi ⟨pv, rfl, x4, ho⟩
  ((repeat (first | refine q1 ?_ | refine q2 ?_ | refine q3 ?_ | refine q4 ?_ | refine q5 ?_ | refine q6 ?_ | refine q7 ?_ | refine q8 ?_ | refine q9 ?_ | refine qa ?_ | refine qb ?_ | refine qc ?_ | refine qd ?_ | refine qe (by decide) ?_ | refine qf ?_ | refine qg ?_ | ((first | apply aops_all | apply adraw_all); (simp (disch := first | exact List.all_nil | omega | (simp only [go_sem]; done) | (simp only [ln, List.length_map]; omega) | (repeat' first | assumption | exact Ext.refl _ | refine Ext.app ?_ _)) only [go_sem]; rfl)))); (try ((first | apply aops_until | apply adraw_until); (simp (disch := first | exact List.all_nil | omega | (simp only [go_sem]; done) | (simp only [ln, List.length_map]; omega) | (repeat' first | assumption | exact Ext.refl _ | refine Ext.app ?_ _)) only [go_sem]; rfl))))
  refine cond_p rfl (fun hlt => ?_) (fun hge => ?_)
  rotate_left 1
  · obtain rfl : i = (ll.getD 0 []).length := by omega
    ((repeat (first | refine q1 ?_ | refine q2 ?_ | refine q3 ?_ | refine q4 ?_ | refine q5 ?_ | refine q6 ?_ | refine q7 ?_ | refine q8 ?_ | refine q9 ?_ | refine qa ?_ | refine qb ?_ | refine qc ?_ | refine qd ?_ | refine qe (by decide) ?_ | refine qf ?_ | refine qg ?_ | ((first | apply aops_all | apply adraw_all); (simp (disch := first | exact List.all_nil | omega | (simp only [go_sem]; done) | (simp only [ln, List.length_map]; omega) | (repeat' first | assumption | exact Ext.refl _ | refine Ext.app ?_ _)) only [go_sem]; rfl)))); (try ((first | apply aops_until | apply adraw_until); (simp (disch := first | exact List.all_nil | omega | (simp only [go_sem]; done) | (simp only [ln, List.length_map]; omega) | (repeat' first | assumption | exact Ext.refl _ | refine Ext.app ?_ _)) only [go_sem]; rfl))))
    refine cond_p rfl (fun hm => ?_) (fun hm => ?_)
    · ((repeat (first | refine q1 ?_ | refine q2 ?_ | refine q3 ?_ | refine q4 ?_ | refine q5 ?_ | refine q6 ?_ | refine q7 ?_ | refine q8 ?_ | refine q9 ?_ | refine qa ?_ | refine qb ?_ | refine qc ?_ | refine qd ?_ | refine qe (by decide) ?_ | refine qf ?_ | refine qg ?_ | ((first | apply aops_all | apply adraw_all); (simp (disch := first | exact List.all_nil | omega | (simp only [go_sem]; done) | (simp only [ln, List.length_map]; omega) | (repeat' first | assumption | exact Ext.refl _ | refine Ext.app ?_ _)) only [go_sem]; rfl)))); (try ((first | apply aops_until | apply adraw_until); (simp (disch := first | exact List.all_nil | omega | (simp only [go_sem]; done) | (simp only [ln, List.length_map]; omega) | (repeat' first | assumption | exact Ext.refl _ | refine Ext.app ?_ _)) only [go_sem]; rfl))))
      have eb : turnP ll bend p = ([], 0, 12) := by unfold turnP; rw [if_pos hte, if_pos hm]
      rw [eb]
      exact fin_3 ⟨_, rfl, xH3.trans x4, Own.nil _ _ _⟩
    · ((repeat (first | refine q1 ?_ | refine q2 ?_ | refine q3 ?_ | refine q4 ?_ | refine q5 ?_ | refine q6 ?_ | refine q7 ?_ | refine q8 ?_ | refine q9 ?_ | refine qa ?_ | refine qb ?_ | refine qc ?_ | refine qd ?_ | refine qe (by decide) ?_ | refine qf ?_ | refine qg ?_ | ((first | apply aops_all | apply adraw_all); (simp (disch := first | exact List.all_nil | omega | (simp only [go_sem]; done) | (simp only [ln, List.length_map]; omega) | (repeat' first | assumption | exact Ext.refl _ | refine Ext.app ?_ _)) only [go_sem]; rfl)))); (try ((first | apply aops_until | apply adraw_until); (simp (disch := first | exact List.all_nil | omega | (simp only [go_sem]; done) | (simp only [ln, List.length_map]; omega) | (repeat' first | assumption | exact Ext.refl _ | refine Ext.app ?_ _)) only [go_sem]; rfl))))
      have eb : turnP ll bend p = ((turnGo ll bend p (ll.getD 0 []).length).1, (turnGo ll bend p (ll.getD 0 []).length).2, 0) := by unfold turnP; rw [if_pos hte, if_neg hm]
      rw [eb]
      exact fin_3 ⟨_, rfl, xH3.trans x4, ho⟩
  have hi' : i < (ll.getD 0 []).length := by omega
  have b7 : (H4 ++ [AObj.cells true 0 [.int .i64 (i : Int)]])[H1.length]? = some (.cells true 0 [v, .int .i64 bend]) := at_app (x4.cell g23)
  have b3 : (H4 ++ [AObj.cells true 0 [.int .i64 (i : Int)]])[H.length + 1]? = some (.cells true 0 [.int .i64 p]) := at_app (x4.cell g13)
  have b11 : (H4 ++ [AObj.cells true 0 [.int .i64 (i : Int)]])[H4.length]? = some (.cells true 0 [.int .i64 (i : Int)]) := at_new
  have x45 : Ext H4 (H4 ++ [AObj.cells true 0 [.int .i64 (i : Int)]]) := (Ext.refl _).app _
  ((repeat (first | refine q1 ?_ | refine q2 ?_ | refine q3 ?_ | refine q4 ?_ | refine q5 ?_ | refine q6 ?_ | refine q8 ?_ | refine q9 ?_ | refine qa ?_ | refine qb ?_ | refine qc ?_ | refine qd ?_ | refine qe (by decide) ?_ | refine qf ?_ | refine qg ?_ | (apply aops_all; (simp (disch := first | exact List.all_nil | omega | (simp only [go_sem]; done) | (simp only [ln, List.length_map]; omega) | (repeat' first | assumption | exact Ext.refl _ | refine Ext.app ?_ _)) only [go_sem]; rfl)))); (try (apply aops_until; (simp (disch := first | exact List.all_nil | omega | (simp only [go_sem]; done) | (simp only [ln, List.length_map]; omega) | (repeat' first | assumption | exact Ext.refl _ | refine Ext.app ?_ _)) only [go_sem]; rfl))))
  generalize (H4 ++ [AObj.cells true 0 [.int .i64 (i : Int)]] : AHeap) = H5 at b7 b3 b11 x45
  have x5 : Ext H H5 := (xH3.trans x4).trans x45
  ((repeat (first | refine q1 ?_ | refine q2 ?_ | refine q3 ?_ | refine q4 ?_ | refine q5 ?_ | refine q6 ?_ | refine q7 ?_ | refine q8 ?_ | refine q9 ?_ | refine qa ?_ | refine qb ?_ | refine qc ?_ | refine qd ?_ | refine qe (by decide) ?_ | refine qf ?_ | refine qg ?_ | ((first | apply aops_all | apply adraw_all); (simp (disch := first | exact List.all_nil | omega | (simp only [go_sem]; done) | (simp only [ln, List.length_map]; omega) | (repeat' first | assumption | exact Ext.refl _ | refine Ext.app ?_ _)) only [go_sem, loadN_at b7]; rfl)))); (try ((first | apply aops_until | apply adraw_until); (simp (disch := first | exact List.all_nil | omega | (simp only [go_sem]; done) | (simp only [ln, List.length_map]; omega) | (repeat' first | assumption | exact Ext.refl _ | refine Ext.app ?_ _)) only [go_sem, loadN_at b7]; rfl))))
  refine aops_call ((rest_c (p := fun n => decide (n = (i : Int) + p)) (hx0.trans x5) (hL.ext x5) hg hbb fun H' hx' => turn1_c (hx'.cell b11) (hx'.cell b3) (by omega)).mono fun v1 H6 ⟨e1, e2⟩ => ?_)
  subst e1
  have hol := OwnL.ret (H0 := H5) (H := H5) (ll := restTab ll bend fun c : Nat => (fun n : Int => decide (n = (i : Int) + p)) c) (Nat.le_refl _)
  rw [← e2] at hol
  have x6 : Ext H5 H6 := ⟨_, e2⟩
  clear e2
  generalize retLV H5 (restTab ll bend fun c : Nat => (fun n : Int => decide (n = (i : Int) + p)) c) = tv at hol
  obtain ⟨rs, hT⟩ := hol.lists
  obtain ⟨isL, hisL⟩ : ∃ isL : Nat → Bool, isL = fun d : Nat => decide ((d : Int) = (i : Int) + p) := ⟨_, rfl⟩
  have hT' : Lists H6 (restTab ll bend isL) rs tv := by rw [hisL]; exact hT
  have hTl : (restTab ll bend isL).length = ll.length := by simp [restTab]
  have hR0 := hT'.row (k := 0) (by rw [hTl]; exact w1)
  have hT0 : (restTab ll bend isL).getD 0 [] = restRow ll bend isL (ll.length - 1) := by
    rw [← partT_zero, partT_getD w1 (Nat.zero_le _), Nat.sub_zero]
  rw [hT0] at hR0
  have hrl := restRow_len (ll := ll) (bend := bend) (isL := isL) (ll.length - 1)
  have hn0 : (restRow ll bend isL (ll.length - 1)).getD i 0 = turnR ll bend p i := by rw [restRow_getD hi', hisL]; rfl
  have hle := turnGo_le ll bend p i
  ((repeat (first | refine q1 ?_ | refine q2 ?_ | refine q3 ?_ | refine q4 ?_ | refine q5 ?_ | refine q6 ?_ | refine q7 ?_ | refine q8 ?_ | refine q9 ?_ | refine qa ?_ | refine qb ?_ | refine qc ?_ | refine qd ?_ | refine qe (by decide) ?_ | refine qf ?_ | refine qg ?_ | ((first | apply aops_all | apply adraw_all); (simp (disch := first | exact List.all_nil | omega | (simp only [go_sem]; done) | (simp only [ln, List.length_map]; omega) | (repeat' first | assumption | exact Ext.refl _ | refine Ext.app ?_ _)) only [go_sem, hT'.len, hT'.idx, hT'.load, hR0.len, hR0.idx, hR0.load, show (0 : Int).toNat = 0 from rfl, load_at (x6.cell b11), hn0]; rfl)))); (try ((first | apply aops_until | apply adraw_until); (simp (disch := first | exact List.all_nil | omega | (simp only [go_sem]; done) | (simp only [ln, List.length_map]; omega) | (repeat' first | assumption | exact Ext.refl _ | refine Ext.app ?_ _)) only [go_sem, hT'.len, hT'.idx, hT'.load, hR0.len, hR0.idx, hR0.load, show (0 : Int).toNat = 0 from rfl, load_at (x6.cell b11), hn0]; rfl))))
  refine cond_p rfl (fun hlt2 => ?_) (fun hge2 => ?_)
  · have eg : turnGo ll bend p (i + 1) = (turnF ll bend p i, turnR ll bend p i) := by
      show (if _ then _ else _) = _
      rw [if_pos hlt2]
    have hfo := follow_c (c0 := i) (hL.ext (x5.trans x6)) hT' hg hbb hi' (by
      have : restK ll bend isL (ll.length - 1) i = turnR ll bend p i := by rw [hisL]; rfl
      omega)
    have ef : followL ll bend isL (ll.length - 1) i = turnF ll bend p i := by rw [hisL]; rfl
    rw [ef] at hfo
    ((repeat (first | refine q1 ?_ | refine q2 ?_ | refine q3 ?_ | refine q4 ?_ | refine q5 ?_ | refine q6 ?_ | refine q7 ?_ | refine q8 ?_ | refine q9 ?_ | refine qa ?_ | refine qb ?_ | refine qc ?_ | refine qd ?_ | refine qe (by decide) ?_ | refine qf ?_ | refine qg ?_ | ((first | apply aops_all | apply adraw_all); (simp (disch := first | exact List.all_nil | omega | (simp only [go_sem]; done) | (simp only [ln, List.length_map]; omega) | (repeat' first | assumption | exact Ext.refl _ | refine Ext.app ?_ _)) only [go_sem, loadN_at (x6.cell b7), load_at (x6.cell b11)]; rfl)))); (try ((first | apply aops_until | apply adraw_until); (simp (disch := first | exact List.all_nil | omega | (simp only [go_sem]; done) | (simp only [ln, List.length_map]; omega) | (repeat' first | assumption | exact Ext.refl _ | refine Ext.app ?_ _)) only [go_sem, loadN_at (x6.cell b7), load_at (x6.cell b11)]; rfl))))
    refine aops_call (hfo.mono fun v1 H7 ⟨e1, e2⟩ => ?_)
    subst e1
    subst e2
    ((repeat (first | refine q1 ?_ | refine q2 ?_ | refine q3 ?_ | refine q4 ?_ | refine q5 ?_ | refine q6 ?_ | refine q7 ?_ | refine q8 ?_ | refine q9 ?_ | refine qa ?_ | refine qb ?_ | refine qc ?_ | refine qd ?_ | refine qe (by decide) ?_ | refine qf ?_ | refine qg ?_ | ((first | apply aops_all | apply adraw_all); (simp (disch := first | exact List.all_nil | omega | (simp only [go_sem]; done) | (simp only [ln, List.length_map]; omega) | (repeat' first | assumption | exact Ext.refl _ | refine Ext.app ?_ _)) only [go_sem]; rfl)))); (try ((first | apply aops_until | apply adraw_until); (simp (disch := first | exact List.all_nil | omega | (simp only [go_sem]; done) | (simp only [ln, List.length_map]; omega) | (repeat' first | assumption | exact Ext.refl _ | refine Ext.app ?_ _)) only [go_sem]; rfl))))
    refine ⟨by omega, retV H6 (turnF ll bend p i).length, by rw [eg]; simp [forget], ((x4.trans x45).trans x6).app _, ?_⟩
    rw [eg]
    exact OwnI.ret_own (by have := (x5.trans x6).len; omega)
  · have eg : turnGo ll bend p (i + 1) = turnGo ll bend p i := by
      show (if _ then _ else _) = _
      rw [if_neg hge2]
    ((repeat (first | refine q1 ?_ | refine q2 ?_ | refine q3 ?_ | refine q4 ?_ | refine q5 ?_ | refine q6 ?_ | refine q7 ?_ | refine q8 ?_ | refine q9 ?_ | refine qa ?_ | refine qb ?_ | refine qc ?_ | refine qd ?_ | refine qe (by decide) ?_ | refine qf ?_ | refine qg ?_ | ((first | apply aops_all | apply adraw_all); (simp (disch := first | exact List.all_nil | omega | (simp only [go_sem]; done) | (simp only [ln, List.length_map]; omega) | (repeat' first | assumption | exact Ext.refl _ | refine Ext.app ?_ _)) only [go_sem]; rfl)))); (try ((first | apply aops_until | apply adraw_until); (simp (disch := first | exact List.all_nil | omega | (simp only [go_sem]; done) | (simp only [ln, List.length_map]; omega) | (repeat' first | assumption | exact Ext.refl _ | refine Ext.app ?_ _)) only [go_sem]; rfl))))
    refine ⟨by omega, pv, by rw [eg]; simp [forget], (x4.trans x45).trans x6, ?_⟩
    rw [eg]
    obtain ⟨N, hN⟩ := x45.trans x6
    rw [hN]
    exact ho.app N
end
end Go.Lq

namespace Go.Lq
open Go
open Go.Proofs

def refBestGo (ll : List (List Int)) (bend : Int) : Nat → List Int × Int
  | 0 => ([], -1)
  | c + 1 => if (refBestGo ll bend c).2 < 0 ∨ (refK ll bend (fun _ => true) (ll.length - 1) c).2 < (refBestGo ll bend c).2 then refK ll bend (fun _ => true) (ll.length - 1) c else refBestGo ll bend c
theorem ixD_first {x : Int} : ∀ {l : List Int} {j : Nat} (n : Int), j < l.length → l.getD j 0 = x → (∀ i < j, l.getD i 0 ≠ x) → ixD x l n = n + j
  | a :: l, j, n, hj, hx, hf => by
    unfold ixD
    cases j with
    | zero => rw [if_pos (by simpa using hx.symm)]; simp
    | succ j =>
      rw [if_neg (fun h => hf 0 (by omega) (by simpa using h.symm)), ixD_first (l := l) (j := j) (n + 1) (by simpa using hj) (by simpa using hx) (fun i hi => by simpa using hf (i + 1) (by omega))]
      push_cast; omega

section
variable {ll : List (List Int)} {bend p : Int}
theorem refBestGo_eq (hg : gridErrL 40 12 ll = 0) (hb : 0 ≤ bend ∧ bend ≤ 1000) : ∀ c, c < (ll.getD 0 []).length → ∃ j, j ≤ c ∧ refBestGo ll bend (c + 1) = (followL ll bend (fun _ => true) (ll.length - 1) j, restK ll bend (fun _ => true) (ll.length - 1) j) ∧
      restK ll bend (fun _ => true) (ll.length - 1) j = minTo (restRow ll bend (fun _ => true) (ll.length - 1)) (c + 1) ∧ ∀ i < j, restK ll bend (fun _ => true) (ll.length - 1) i ≠ minTo (restRow ll bend (fun _ => true) (ll.length - 1)) (c + 1) := by
  obtain ⟨w1, w2, w3, w4, w5, w6⟩ := gridErr_ok hg
  have hk : ∀ c, c < (ll.getD 0 []).length → refK ll bend (fun _ => true) (ll.length - 1) c = (followL ll bend (fun _ => true) (ll.length - 1) c, restK ll bend (fun _ => true) (ll.length - 1) c) := fun c hc => by
    have := restK_true (bend := bend) w6 hc (ll.length - 1)
    rw [refK_eq w6 hb _ _ (by omega), if_pos (by omega)]
  intro c
  induction c with
  | zero =>
    intro hc
    refine ⟨0, Nat.le_refl _, ?_, ?_, fun i hi => by omega⟩
    · show (if _ then _ else _) = _
      rw [if_pos (.inl (by show (-1 : Int) < 0; decide)), hk 0 hc]
    · simp only [minTo]
      rw [restRow_getD hc]; omega
  | succ c ih =>
    intro hc
    obtain ⟨j, hj, h1, h2, h3⟩ := ih (by omega)
    have em : minTo (restRow ll bend (fun _ => true) (ll.length - 1)) (c + 2) = min (minTo (restRow ll bend (fun _ => true) (ll.length - 1)) (c + 1)) (restK ll bend (fun _ => true) (ll.length - 1) (c + 1)) := by
      rw [← restRow_getD (bend := bend) (isL := fun _ => true) (k := ll.length - 1) hc]; rfl
    have hj0 := (restK_bound (isL := fun _ => true) w6 hb (ll.length - 1) j).1
    have e : refBestGo ll bend (c + 1 + 1) = if (refBestGo ll bend (c + 1)).2 < 0 ∨ (refK ll bend (fun _ => true) (ll.length - 1) (c + 1)).2 < (refBestGo ll bend (c + 1)).2 then refK ll bend (fun _ => true) (ll.length - 1) (c + 1) else refBestGo ll bend (c + 1) := rfl
    rw [hk (c + 1) hc, h1] at e
    by_cases hlt : restK ll bend (fun _ => true) (ll.length - 1) (c + 1) < restK ll bend (fun _ => true) (ll.length - 1) j
    · rw [if_pos (.inr hlt)] at e
      refine ⟨c + 1, Nat.le_refl _, e, by rw [em]; omega, fun i hi => ?_⟩
      have hle : minTo (restRow ll bend (fun _ => true) (ll.length - 1)) (c + 1) ≤ (restRow ll bend (fun _ => true) (ll.length - 1)).getD i 0 := minTo_le hi
      rw [restRow_getD (by omega)] at hle
      rw [em]; omega
    · rw [if_neg (fun hh => by rcases hh with hh | hh <;> omega)] at e
      exact ⟨j, by omega, e, by rw [em]; omega, fun i hi => by have := h3 i hi; rw [em]; omega⟩

end
end Go.Lq

namespace Go.Lq
open Go
open Go.Proofs

def chainL (w : Nat) : List Int → Prop
  | [] => False
  | [a] => 0 ≤ a ∧ a < w
  | a :: b :: t => (0 ≤ a ∧ a < w) ∧ (-1 ≤ b - a ∧ b - a ≤ 1) ∧ chainL w (b :: t)
def costF (ll : List (List Int)) (bend : Int) : Nat → List Int → Int
  | _, [] => 0
  | r, [a] => vAt ll r a.toNat
  | r, a :: b :: t => vAt ll r a.toNat + bendI bend a b + costF ll bend (r + 1) (b :: t)
def beforeL : List Int → List Int → Bool
  | a :: s, b :: t => if a = b then beforeL s t else decide (a < b)
  | [], _ :: _ => true
  | _, [] => false
theorem before_anti : ∀ {a b : List Int}, a.length = b.length → beforeL a b = false → beforeL b a = false → a = b
  | [], [], _, _, _ => rfl
  | [], _ :: _, h, _, _ => by simp at h
  | _ :: _, [], h, _, _ => by simp at h
  | a :: s, b :: t, h, h1, h2 => by
    unfold beforeL at h1 h2
    by_cases e : a = b
    · subst e
      rw [if_pos rfl] at h1 h2
      rw [before_anti (by simpa using h) h1 h2]
    · rw [if_neg e] at h1
      rw [if_neg (Ne.symm e)] at h2
      have h1 := of_decide_eq_false h1
      have h2 := of_decide_eq_false h2
      omega
theorem chain_of {w : Nat} {p : List Int} (h : ∀ i, i < p.length → (0 ≤ p.getD i 0 ∧ p.getD i 0 ≤ (w : Int) - 1) ∧ (i = 0 ∨ (-1 ≤ p.getD i 0 - p.getD (i - 1) 0 ∧ p.getD i 0 - p.getD (i - 1) 0 ≤ 1))) :
    ∀ n i, i + n + 1 = p.length → chainL w (p.drop i)
  | 0, i, hi => by
    rw [drop_getD (d := 0) (show i < p.length by omega), drop_end (show p.length ≤ i + 1 by omega)]
    have := (h i (by omega)).1
    exact ⟨by omega, by omega⟩
  | n + 1, i, hi => by
    have ih := chain_of h n (i + 1) (by omega)
    rw [drop_getD (d := 0) (show i < p.length by omega)]
    rw [drop_getD (d := 0) (show i + 1 < p.length by omega)] at ih ⊢
    have h0 := (h i (by omega)).1
    have h1 := (h (i + 1) (by omega)).2
    rw [Nat.add_sub_cancel] at h1
    exact ⟨⟨by omega, by omega⟩, by omega, ih⟩
theorem chain_ok {w : Nat} : ∀ {p : List Int}, chainL w p → ∀ i, i < p.length → (0 ≤ p.getD i 0 ∧ p.getD i 0 ≤ (w : Int) - 1) ∧ (i = 0 ∨ (-1 ≤ p.getD i 0 - p.getD (i - 1) 0 ∧ p.getD i 0 - p.getD (i - 1) 0 ≤ 1))
  | [], h, _, _ => h.elim
  | [a], h, i, hi => by
    have : i = 0 := by simpa using hi
    subst this
    exact ⟨⟨h.1, by have := h.2; show a ≤ _; omega⟩, .inl rfl⟩
  | a :: b :: t, h, 0, _ => ⟨⟨h.1.1, by have := h.1.2; show a ≤ _; omega⟩, .inl rfl⟩
  | a :: b :: t, h, i + 1, hi => by
    have ih := chain_ok h.2.2 i (by simpa using hi)
    simp only [List.getD_cons_succ, Nat.add_sub_cancel]
    refine ⟨ih.1, .inr ?_⟩
    cases i with
    | zero => exact h.2.1
    | succ i =>
      have := ih.2
      simp only [Nat.add_sub_cancel, List.getD_cons_succ] at this ⊢
      omega
theorem pathGo_zero {w : Int} {p : List Int} : ∀ {n i : Nat}, (∀ j, i ≤ j → j < i + n → pathBad w p j = 0) → pathGo w p n i = 0
  | 0, _, _ => rfl
  | n + 1, i, h => by
    unfold pathGo
    rw [if_pos (h i (Nat.le_refl _) (by omega))]
    exact pathGo_zero fun j h1 h2 => h j (by omega) (by omega)
theorem pathErr_of {ll : List (List Int)} {p : List Int} (hl : p.length = ll.length) (h : chainL (ll.getD 0 []).length p) : pathErrL ll p = 0 := by
  unfold pathErrL
  rw [if_pos hl]
  refine pathGo_zero fun j _ hj => ?_
  obtain ⟨h1, h2⟩ := chain_ok h j (by omega)
  unfold pathBad
  rw [if_pos h1, if_pos h2]
theorem chain_path {ll : List (List Int)} {p : List Int} (h0 : 0 < ll.length) (h : pathErrL ll p = 0) : p.length = ll.length ∧ chainL (ll.getD 0 []).length p := by
  obtain ⟨h1, h2⟩ := pathErr_ok h
  exact ⟨h1, by have := chain_of h2 (p.length - 1) 0 (by omega); rwa [List.drop_zero] at this⟩

section
variable {ll : List (List Int)} {bend : Int} {isL : Nat → Bool}
theorem costF_drop (p : List Int) : ∀ n i, i + n + 1 = p.length → costTo ll bend p i + bendAt bend p i + costF ll bend i (p.drop i) = costTo ll bend p p.length
  | 0, i, hi => by
    rw [drop_getD (d := 0) (show i < p.length by omega), drop_end (show p.length ≤ i + 1 by omega), ← hi]
    simp only [Nat.add_zero, costTo, costF, pixOf, vAt]
    omega
  | n + 1, i, hi => by
    have ih := costF_drop p n (i + 1) (by omega)
    rw [drop_getD (d := 0) (show i < p.length by omega)]
    rw [drop_getD (d := 0) (show i + 1 < p.length by omega)] at ih ⊢
    have e1 : bendAt bend p (i + 1) = bendI bend (p.getD i 0) (p.getD (i + 1) 0) := by unfold bendAt; rw [if_neg (by omega), Nat.add_sub_cancel]
    rw [e1] at ih
    simp only [costTo, costF, pixOf, vAt] at ih ⊢
    omega
theorem costTo_eq {p : List Int} (h0 : 0 < p.length) : costTo ll bend p p.length = costF ll bend 0 p := by
  have := costF_drop (ll := ll) (bend := bend) p (p.length - 1) 0 (by omega)
  rw [List.drop_zero] at this
  rw [← this]
  simp [costTo, bendAt]

/-- No chain costs less. -/
theorem rest_le : ∀ k (q : List Int), chainL (ll.getD 0 []).length q → q.length = k + 1 → k < ll.length → isL (q.getD k 0).toNat = true → restK ll bend isL k (q.getD 0 0).toNat ≤ costF ll bend (ll.length - 1 - k) q
  | 0, [a], h, _, _, hl => by
    have hl : isL a.toNat = true := hl
    unfold restK
    simp only [List.getD_cons_zero]
    rw [if_pos hl]
    exact Int.le_refl _
  | k + 1, [a], _, hl, _, _ => by simp at hl
  | 0, a :: b :: t, _, hl, _, _ => by simp at hl
  | k, [], h, _, _, _ => h.elim
  | k + 1, a :: b :: t, h, hl, hk, hL => by
    have ih := rest_le k (b :: t) h.2.2 (by simpa using hl) (by omega) (by simpa using hL)
    obtain ⟨⟨h1, h2⟩, h3, h4⟩ := h
    have hb := (chain_ok h4 0 (by simp)).1
    simp only [List.getD_cons_zero] at ih hb ⊢
    have hm : b.toNat ∈ nbL (ll.getD 0 []).length a.toNat := (nbL_mem (by omega)).2 ⟨by omega, by omega, by omega⟩
    have := (minGo_spec (fun d => vAt ll (ll.length - 2 - k) a.toNat + bendI bend (a.toNat : Int) (d : Int) + restK ll bend isL k d) (nbL (ll.getD 0 []).length a.toNat) 1000000).2.1 _ hm
    rw [Int.toNat_of_nonneg h1, Int.toNat_of_nonneg hb.1] at this
    have e : costF ll bend (ll.length - 1 - (k + 1)) (a :: b :: t) = vAt ll (ll.length - 2 - k) a.toNat + bendI bend a b + costF ll bend (ll.length - 1 - k) (b :: t) := by
      rw [costF, show ll.length - 1 - (k + 1) + 1 = ll.length - 1 - k by omega, show ll.length - 1 - (k + 1) = ll.length - 2 - k by omega]
    rw [e]
    have e2 : restK ll bend isL (k + 1) a.toNat = minGo (fun d => vAt ll (ll.length - 2 - k) a.toNat + bendI bend (a.toNat : Int) (d : Int) + restK ll bend isL k d) 1000000 (nbL (ll.getD 0 []).length a.toNat) := rfl
    rw [e2, Int.toNat_of_nonneg h1]
    omega

theorem follow_ok (hv : ∀ i, i < ll.length → ∀ n ∈ ll.getD i [], 0 ≤ n ∧ n ≤ 255) (hb : 0 ≤ bend ∧ bend ≤ 1000) : ∀ k c, c < (ll.getD 0 []).length → k < ll.length → restK ll bend isL k c < 1000000 →
    chainL (ll.getD 0 []).length (followL ll bend isL k c) ∧ isL ((followL ll bend isL k c).getD k 0).toNat = true ∧ costF ll bend (ll.length - 1 - k) (followL ll bend isL k c) = restK ll bend isL k c
  | 0, c, hc, _, hr => by
    unfold restK at hr
    by_cases hl : isL c = true
    · refine ⟨⟨by omega, by omega⟩, by simpa [followL] using hl, ?_⟩
      unfold restK
      rw [if_pos hl]
      simp [followL, costF]
    · rw [if_neg hl] at hr; omega
  | k + 1, c, hc, hk, hr => by
    obtain ⟨d, _, hn, hm, he⟩ := nextK_some hr
    have hdn := (nbL_mem hc).1 hm
    have hvb := val_bound hv (ll.length - 2 - k) c
    have bb := bendI_bound (a := (c : Int)) (b := (d : Int)) hb
    simp only [vAt] at he
    obtain ⟨i1, i2, i3⟩ := follow_ok hv hb k d hdn.1 (by omega) (by omega)
    have ef : followL ll bend isL (k + 1) c = (c : Int) :: followL ll bend isL k d := by rw [followL, hn]
    rw [ef]
    have ec := followL_cons (ll := ll) (bend := bend) (isL := isL) k d
    refine ⟨?_, by simpa using i2, ?_⟩
    · rw [ec] at i1 ⊢
      exact ⟨⟨by omega, by omega⟩, by omega, i1⟩
    · rw [ec] at i3 ⊢
      rw [costF, show ll.length - 1 - (k + 1) + 1 = ll.length - 1 - k by omega, i3, ← he, show ll.length - 1 - (k + 1) = ll.length - 2 - k by omega]
      simp only [vAt, Int.toNat_natCast]

theorem find_le {p : Nat → Bool} : ∀ {l : List Nat} {d b : Nat}, l.Pairwise (· < ·) → l.find? p = some d → b ∈ l → p b = true → d ≤ b
  | [], _, _, _, h, _, _ => by simp at h
  | x :: l, d, b, hp, h, hb, hpb => by
    rw [List.pairwise_cons] at hp
    by_cases hx : p x = true
    · rw [List.find?_cons_of_pos hx] at h
      obtain rfl := Option.some.inj h
      rcases List.mem_cons.1 hb with rfl | hb
      · exact Nat.le_refl _
      · exact Nat.le_of_lt (hp.1 _ hb)
    · rw [List.find?_cons_of_neg hx] at h
      rcases List.mem_cons.1 hb with rfl | hb
      · exact absurd hpb hx
      · exact find_le hp.2 h hb hpb
theorem nbL_sorted (w c : Nat) : (nbL w c).Pairwise (· < ·) := by
  unfold nbL
  rw [List.pairwise_map]
  exact List.pairwise_lt_range.imp fun h => by omega
/-- Of the chains that cost least none is before. -/
theorem rest_lex (hv : ∀ i, i < ll.length → ∀ n ∈ ll.getD i [], 0 ≤ n ∧ n ≤ 255) (hb : 0 ≤ bend ∧ bend ≤ 1000) : ∀ k (c : Nat) (q : List Int), chainL (ll.getD 0 []).length q → q.length = k + 1 → k < ll.length → isL (q.getD k 0).toNat = true →
    q.getD 0 0 = (c : Int) → costF ll bend (ll.length - 1 - k) q = restK ll bend isL k c → restK ll bend isL k c < 1000000 → beforeL q (followL ll bend isL k c) = false
  | 0, c, [a], _, _, _, _, h0, _, _ => by
    have h0 : a = (c : Int) := h0
    subst h0
    simp [followL, beforeL]
  | k + 1, c, [a], _, hl, _, _, _, _, _ => by simp at hl
  | 0, c, a :: b :: t, _, hl, _, _, _, _, _ => by simp at hl
  | k, c, [], h, _, _, _, _, _, _ => h.elim
  | k + 1, c, a :: b :: t, h, hl, hk, hL, h0, hcost, hr => by
    have h0 : a = (c : Int) := h0
    subst h0
    have hle := rest_le (ll := ll) (bend := bend) (isL := isL) k (b :: t) h.2.2 (by simpa using hl) (by omega) (by simpa using hL)
    obtain ⟨⟨h1, h2⟩, h3, h4⟩ := h
    have hbb := (chain_ok h4 0 (by simp)).1
    simp only [List.getD_cons_zero] at hle hbb
    obtain ⟨bn, rfl⟩ : ∃ bn : Nat, b = (bn : Int) := ⟨b.toNat, by omega⟩
    have hm : bn ∈ nbL (ll.getD 0 []).length c := (nbL_mem (by omega)).2 ⟨by omega, by omega, by omega⟩
    have hmin := (minGo_spec (fun d => vAt ll (ll.length - 2 - k) c + bendI bend (c : Int) (d : Int) + restK ll bend isL k d) (nbL (ll.getD 0 []).length c) 1000000).2.1 _ hm
    have e2 : restK ll bend isL (k + 1) c = minGo (fun d => vAt ll (ll.length - 2 - k) c + bendI bend (c : Int) (d : Int) + restK ll bend isL k d) 1000000 (nbL (ll.getD 0 []).length c) := rfl
    rw [← e2] at hmin
    simp only [Int.toNat_natCast] at hmin hle
    have e : costF ll bend (ll.length - 1 - (k + 1)) ((c : Int) :: (bn : Int) :: t) = vAt ll (ll.length - 2 - k) c + bendI bend c bn + costF ll bend (ll.length - 1 - k) ((bn : Int) :: t) := by
      rw [costF, show ll.length - 1 - (k + 1) + 1 = ll.length - 1 - k by omega, show ll.length - 1 - (k + 1) = ll.length - 2 - k by omega, Int.toNat_natCast]
    rw [e] at hcost
    have hvb := val_bound hv (ll.length - 2 - k) c
    have bb := bendI_bound (a := (c : Int)) (b := (bn : Int)) hb
    have hbk : costF ll bend (ll.length - 1 - k) ((bn : Int) :: t) = restK ll bend isL k bn := by omega
    have hfb : vAt ll (ll.length - 2 - k) c + bendI bend (c : Int) (bn : Int) + restK ll bend isL k bn = restK ll bend isL (k + 1) c := by omega
    obtain ⟨d, hfind, hn, _, _⟩ := nextK_some hr
    have hdb := find_le (nbL_sorted _ _) hfind hm (by simpa using hfb)
    rw [followL, hn]
    rw [beforeL, if_pos rfl]
    by_cases hd : d = bn
    · subst hd
      refine rest_lex hv hb k d ((d : Int) :: t) h4 (by simpa using hl) (by omega) (by simpa using hL) rfl hbk ?_
      simp only [vAt] at hvb hfb
      omega
    · rw [followL_cons, beforeL, if_neg (by omega)]
      exact decide_eq_false (by omega)

theorem rest_mono (hv : ∀ i, i < ll.length → ∀ n ∈ ll.getD i [], 0 ≤ n ∧ n ≤ 255) (hb : 0 ≤ bend ∧ bend ≤ 1000) {k c : Nat} (hc : c < (ll.getD 0 []).length) (hk : k < ll.length) : restK ll bend (fun _ => true) k c ≤ restK ll bend isL k c := by
  by_cases h : restK ll bend isL k c < 1000000
  · obtain ⟨h1, h2, h3⟩ := follow_ok hv hb k c hc hk h
    have := rest_le (bend := bend) (isL := fun _ => true) k _ h1 (followL_len ll bend isL k c) hk rfl
    rw [h3, followL_cons, List.getD_cons_zero, Int.toNat_natCast] at this
    exact this
  · have := (restK_bound (isL := fun _ => true) hv hb k c).2.1
    omega
end

section
variable {ll : List (List Int)} {bend p : Int}
theorem best_first (hg : gridErrL 40 12 ll = 0) (hb : 0 ≤ bend ∧ bend ≤ 1000) : ∃ j, j < (ll.getD 0 []).length ∧ bestP ll bend = (followL ll bend (fun _ => true) (ll.length - 1) j, restK ll bend (fun _ => true) (ll.length - 1) j, 0) ∧
    (∀ i, i < (ll.getD 0 []).length → restK ll bend (fun _ => true) (ll.length - 1) j ≤ restK ll bend (fun _ => true) (ll.length - 1) i) ∧ (∀ i < j, restK ll bend (fun _ => true) (ll.length - 1) j < restK ll bend (fun _ => true) (ll.length - 1) i) ∧ restK ll bend (fun _ => true) (ll.length - 1) j < 1000000 := by
  obtain ⟨w1, w2, w3, w4, w5, w6⟩ := gridErr_ok hg
  obtain ⟨j, hj, h1, h2, h3⟩ := refBestGo_eq hg hb ((ll.getD 0 []).length - 1) (by omega)
  rw [show (ll.getD 0 []).length - 1 + 1 = (ll.getD 0 []).length by omega] at h1 h2 h3
  have ht : taskErrL ll bend = 0 := by unfold taskErrL; rw [if_pos hg, if_pos hb]
  have hi := ixD_first (x := bestCost ll bend) (l := restRow ll bend (fun _ => true) (ll.length - 1)) (j := j) 0 (by rw [restRow_len]; omega) (by rw [restRow_getD (by omega)]; exact h2)
    (fun i hi => by rw [restRow_getD (by omega)]; exact h3 i hi)
  have hmin : ∀ i, i < (ll.getD 0 []).length → restK ll bend (fun _ => true) (ll.length - 1) j ≤ restK ll bend (fun _ => true) (ll.length - 1) i := fun i hi => by
    have := minTo_le (l := restRow ll bend (fun _ => true) (ll.length - 1)) hi
    rw [restRow_getD hi] at this
    omega
  have := restK_true (bend := bend) w6 (c := j) (by omega) (ll.length - 1)
  refine ⟨j, by omega, ?_, hmin, fun i hi => ?_, by omega⟩
  · unfold bestP
    rw [if_pos ht, hi]
    simp only [Int.zero_add, Int.toNat_natCast]
    rw [h2]; rfl
  · have := hmin i (by omega)
    have := h3 i hi
    omega

/-- The best path is a path, costs what is said, and no path costs less; none that costs as much is before. -/
theorem best_law (hg : gridErrL 40 12 ll = 0) (hb : 0 ≤ bend ∧ bend ≤ 1000) : (bestP ll bend).2.2 = 0 ∧ pathErrL ll (bestP ll bend).1 = 0 ∧ costTo ll bend (bestP ll bend).1 (bestP ll bend).1.length = (bestP ll bend).2.1 ∧
    ∀ q, pathErrL ll q = 0 → (bestP ll bend).2.1 ≤ costTo ll bend q q.length ∧ (costTo ll bend q q.length = (bestP ll bend).2.1 → beforeL q (bestP ll bend).1 = false) := by
  obtain ⟨w1, w2, w3, w4, w5, w6⟩ := gridErr_ok hg
  obtain ⟨j, hj, e, h1, h2, h3⟩ := best_first hg hb
  rw [e]
  simp only
  obtain ⟨f1, f2, f3⟩ := follow_ok w6 hb (ll.length - 1) j hj (by omega) h3
  have fl := followL_len ll bend (fun _ => true) (ll.length - 1) j
  rw [Nat.sub_self] at f3
  refine ⟨trivial, pathErr_of (by omega) f1, by rw [costTo_eq (by omega)]; exact f3, fun q hq => ?_⟩
  obtain ⟨ql, qc⟩ := chain_path w1 hq
  have q0 := (chain_ok qc 0 (by omega)).1
  have hle := rest_le (bend := bend) (isL := fun _ => true) (ll.length - 1) q qc (by omega) (by omega) rfl
  rw [Nat.sub_self] at hle
  have hm := h1 (q.getD 0 0).toNat (by omega)
  rw [costTo_eq (by omega)]
  refine ⟨by omega, fun he => ?_⟩
  have hjq : j ≤ (q.getD 0 0).toNat := by
    rcases Nat.lt_or_ge (q.getD 0 0).toNat j with h | h
    · have := h2 _ h; omega
    · exact h
  by_cases hej : j = (q.getD 0 0).toNat
  · exact rest_lex w6 hb (ll.length - 1) j q qc (by omega) (by omega) rfl (by omega) (by rw [Nat.sub_self]; exact he) h3
  · match q, qc with
    | a :: t, qc =>
      simp only [List.getD_cons_zero] at q0 hjq hej
      rw [followL_cons, beforeL, if_neg (by omega)]
      exact decide_eq_false (by omega)

theorem turnGo_ge (hg : gridErrL 40 12 ll = 0) (hb : 0 ≤ bend ∧ bend ≤ 1000) {n : Int} (hn : n ≤ 1000000) (h : ∀ i, i < (ll.getD 0 []).length → n ≤ restK ll bend (fun _ => true) (ll.length - 1) i) : ∀ c, c ≤ (ll.getD 0 []).length → n ≤ (turnGo ll bend p c).2
  | 0, _ => hn
  | c + 1, hc => by
    obtain ⟨w1, w2, w3, w4, w5, w6⟩ := gridErr_ok hg
    have ih := turnGo_ge hg hb hn h c (by omega)
    have hm := rest_mono (isL := fun d : Nat => decide ((d : Int) = (c : Int) + p)) w6 hb (k := ll.length - 1) (c := c) (by omega) (by omega)
    have := h c (by omega)
    unfold turnGo
    split
    · show n ≤ turnR ll bend p c
      unfold turnR; omega
    · exact ih

/-- No turn costs less. -/
theorem turn_ge (hg : gridErrL 40 12 ll = 0) (hb : 0 ≤ bend ∧ bend ≤ 1000) (h0 : (turnP ll bend p).2.2 = 0) : (bestP ll bend).2.1 ≤ (turnP ll bend p).2.1 := by
  obtain ⟨j, hj, e, h1, h2, h3⟩ := best_first hg hb
  have := turnGo_ge (p := p) hg hb (by omega) h1 _ (Nat.le_refl _)
  rw [e]
  unfold turnP at h0 ⊢
  split at h0
  · rename_i he
    rw [if_pos he]
    split at h0
    · cases h0
    · rename_i hm
      rw [if_neg hm]
      exact this
  · rename_i he; exact absurd h0 he

/-- The best path is the best turn with its own pitch. -/
theorem turn_best (hg : gridErrL 40 12 ll = 0) (hb : 0 ≤ bend ∧ bend ≤ 1000) (hp : p = (bestP ll bend).1.getD (ll.length - 1) 0 - (bestP ll bend).1.getD 0 0) : turnP ll bend p = bestP ll bend := by
  obtain ⟨w1, w2, w3, w4, w5, w6⟩ := gridErr_ok hg
  obtain ⟨j, hj, e, h1, h2, h3⟩ := best_first hg hb
  rw [e] at hp
  simp only at hp
  obtain ⟨f1, f2, f3⟩ := follow_ok w6 hb (ll.length - 1) j hj (by omega) h3
  have fl := followL_len ll bend (fun _ => true) (ll.length - 1) j
  have l0 : (followL ll bend (fun _ => true) (ll.length - 1) j).getD 0 0 = (j : Int) := by rw [followL_cons]; rfl
  rw [l0] at hp
  have lb := (chain_ok f1 (ll.length - 1) (by omega)).1
  obtain ⟨isL, hisL⟩ : ∃ isL : Nat → Bool, isL = fun d : Nat => decide ((d : Int) = (j : Int) + p) := ⟨_, rfl⟩
  have hlast : isL ((followL ll bend (fun _ => true) (ll.length - 1) j).getD (ll.length - 1) 0).toNat = true := by
    rw [hisL]; simp only [decide_eq_true_eq]; omega
  have hr1 := rest_le (bend := bend) (isL := isL) (ll.length - 1) _ f1 fl (by omega) hlast
  rw [l0, Int.toNat_natCast, f3] at hr1
  have hr2 := rest_mono (isL := isL) w6 hb (k := ll.length - 1) (c := j) hj (by omega)
  have hreq : restK ll bend isL (ll.length - 1) j = restK ll bend (fun _ => true) (ll.length - 1) j := by omega
  obtain ⟨g1, g2, g3⟩ := follow_ok (isL := isL) w6 hb (ll.length - 1) j hj (by omega) (by omega)
  have gl := followL_len ll bend isL (ll.length - 1) j
  have heq : followL ll bend isL (ll.length - 1) j = followL ll bend (fun _ => true) (ll.length - 1) j := by
    refine before_anti (by omega) ?_ ?_
    · exact rest_lex w6 hb (ll.length - 1) j _ g1 gl (by omega) rfl (by rw [followL_cons]; rfl) (by rw [g3, hreq]) h3
    · exact rest_lex w6 hb (ll.length - 1) j _ f1 fl (by omega) hlast l0 (by rw [f3, hreq]) (by omega)
  have hF : turnF ll bend p j = followL ll bend (fun _ => true) (ll.length - 1) j := by unfold turnF; rw [← hisL]; exact heq
  have hR : turnR ll bend p j = restK ll bend (fun _ => true) (ll.length - 1) j := by unfold turnR; rw [← hisL]; exact hreq
  have hlow : ∀ c, c ≤ j → restK ll bend (fun _ => true) (ll.length - 1) j < (turnGo ll bend p c).2 := fun c => by
    induction c with
    | zero => intro _; exact h3
    | succ c ih =>
      intro hc
      have ih := ih (by omega)
      have hm := rest_mono (isL := fun d : Nat => decide ((d : Int) = (c : Int) + p)) w6 hb (k := ll.length - 1) (c := c) (by omega) (by omega)
      have := h2 c (by omega)
      unfold turnGo
      split
      · show _ < turnR ll bend p c
        unfold turnR; omega
      · exact ih
  have hup : ∀ i, j + 1 + i ≤ (ll.getD 0 []).length → turnGo ll bend p (j + 1 + i) = (followL ll bend (fun _ => true) (ll.length - 1) j, restK ll bend (fun _ => true) (ll.length - 1) j) := fun i => by
    induction i with
    | zero =>
      intro _
      show (if _ then _ else _) = _
      rw [if_pos (by rw [hR]; exact hlow j (Nat.le_refl _)), hF, hR]
    | succ i ih =>
      intro hi
      have ih := ih (by omega)
      have hm := rest_mono (isL := fun d : Nat => decide ((d : Int) = ((j + 1 + i : Nat) : Int) + p)) w6 hb (k := ll.length - 1) (c := j + 1 + i) (by omega) (by omega)
      have := h1 (j + 1 + i) (by omega)
      have es : turnGo ll bend p (j + 1 + i + 1) = if turnR ll bend p (j + 1 + i) < (turnGo ll bend p (j + 1 + i)).2 then (turnF ll bend p (j + 1 + i), turnR ll bend p (j + 1 + i)) else turnGo ll bend p (j + 1 + i) := rfl
      show turnGo ll bend p (j + 1 + i + 1) = _
      rw [es, if_neg (by rw [ih]; unfold turnR; simp only; omega)]
      exact ih
  have hall := hup ((ll.getD 0 []).length - (j + 1)) (by omega)
  rw [show j + 1 + ((ll.getD 0 []).length - (j + 1)) = (ll.getD 0 []).length by omega] at hall
  have ht : taskErrL ll bend = 0 := by unfold taskErrL; rw [if_pos hg, if_pos hb]
  have htt : turnErrL ll bend p = 0 := by unfold turnErrL; rw [if_pos ht, if_pos (by omega)]
  unfold turnP
  rw [if_pos htt, hall, if_neg (by show ¬ _ = _; omega), e]
end
end Go.Lq

namespace Go.Lq
open Go
open Go.Proofs

def priceR (ll : List (List Int)) (bend : Int) : Nat → List Int
  | 0 => ll.getD 0 []
  | r + 1 => (List.range (ll.getD 0 []).length).map fun c => ceilL ll bend (priceR ll bend r) (r + 1) c
def pricesP (ll : List (List Int)) (bend : Int) : List (List Int) := (List.range ll.length).map (priceR ll bend)
theorem ceilGo_eq (bend : Int) (bef : List Int) (c : Nat) : ∀ (l : List Nat) (m : Int), ceilGo bend bef c m l = minGo (fun d => bef.getD d 0 + bendI bend (d : Int) (c : Int)) m l
  | [], m => rfl
  | d :: t, m => by rw [ceilGo, minGo]; exact ceilGo_eq bend bef c t _
theorem priceRows_of {w : Nat} : ∀ {ll : List (List Int)}, (∀ r ∈ ll, priceRow w r = 0) → priceRows w ll = 0
  | [], _ => rfl
  | r :: t, h => by
    unfold priceRows
    rw [if_pos (h r (by simp))]
    exact priceRows_of fun x hx => h x (by simp [hx])
section
variable {ll : List (List Int)} {bend : Int}
theorem priceR_len : ∀ r, (priceR ll bend r).length = (ll.getD 0 []).length
  | 0 => rfl
  | r + 1 => by simp [priceR]
theorem priceR_getD {r c : Nat} (hc : c < (ll.getD 0 []).length) : (priceR ll bend (r + 1)).getD c 0 = ceilL ll bend (priceR ll bend r) (r + 1) c := by
  show ((List.range (ll.getD 0 []).length).map fun c => ceilL ll bend (priceR ll bend r) (r + 1) c).getD c 0 = _
  rw [getD_map_range hc]
theorem priceR_bound (hv : ∀ i, i < ll.length → ∀ n ∈ ll.getD i [], 0 ≤ n ∧ n ≤ 255) (hb : 0 ≤ bend ∧ bend ≤ 1000) : ∀ (r c : Nat), r < 100 → 0 ≤ (priceR ll bend r).getD c 0 ∧ (priceR ll bend r).getD c 0 ≤ 1255 * (r + 1)
  | 0, c, _ => by
    have := val_bound hv 0 c
    unfold priceR
    omega
  | r + 1, c, hr => by
    by_cases hc : c < (ll.getD 0 []).length
    · rw [priceR_getD hc]
      have hvb := val_bound hv (r + 1) c
      obtain ⟨h1, h2, h3⟩ := minGo_spec (fun d => (priceR ll bend r).getD d 0 + bendI bend (d : Int) (c : Int)) (nbL (ll.getD 0 []).length c) 1000000
      have hm := h2 c ((nbL_mem hc).2 ⟨hc, by omega, by omega⟩)
      rw [← ceilGo_eq] at hm h3
      have ih := priceR_bound hv hb r c (by omega)
      have e0 : bendI bend (c : Int) (c : Int) = 0 := by unfold bendI; rw [if_pos rfl]
      simp only [e0] at hm
      unfold ceilL
      have hlo : 0 ≤ ceilGo bend (priceR ll bend r) c 1000000 (nbL (ll.getD 0 []).length c) := by
        rcases h3 with h3 | ⟨d, _, h3⟩
        · omega
        · have i2 := priceR_bound hv hb r d (by omega)
          have bb := bendI_bound (a := (d : Int)) (b := (c : Int)) hb
          omega
      push_cast
      omega
    · rw [getD_ge (by rw [priceR_len]; omega)]
      omega
/-- What is paid before and after is at least what the best path costs. -/
theorem price_rest (hv : ∀ i, i < ll.length → ∀ n ∈ ll.getD i [], 0 ≤ n ∧ n ≤ 255) (hb : 0 ≤ bend ∧ bend ≤ 1000) (hl : ll.length ≤ 40) {n : Int} (hn : ∀ i, i < (ll.getD 0 []).length → n ≤ restK ll bend (fun _ => true) (ll.length - 1) i) :
    ∀ (r c : Nat), r < ll.length → c < (ll.getD 0 []).length → n ≤ (priceR ll bend r).getD c 0 - vAt ll r c + restK ll bend (fun _ => true) (ll.length - 1 - r) c
  | 0, c, h0, hc => by
    have := hn c hc
    rw [Nat.sub_zero]
    unfold priceR vAt
    omega
  | r + 1, c, hr, hc => by
    rw [priceR_getD hc]
    obtain ⟨h1, h2, h3⟩ := minGo_spec (fun d => (priceR ll bend r).getD d 0 + bendI bend (d : Int) (c : Int)) (nbL (ll.getD 0 []).length c) 1000000
    have hm := h2 c ((nbL_mem hc).2 ⟨hc, by omega, by omega⟩)
    rw [← ceilGo_eq] at hm h3
    have hbd := priceR_bound hv hb r c (by omega)
    have e0 : bendI bend (c : Int) (c : Int) = 0 := by unfold bendI; rw [if_pos rfl]
    simp only [e0] at hm
    rcases h3 with h3 | ⟨d, hd, h3⟩
    · omega
    have hdn := (nbL_mem hc).1 hd
    have ih := price_rest hv hb hl hn r d (by omega) hdn.1
    have hm2 := (minGo_spec (fun e => vAt ll r d + bendI bend (d : Int) (e : Int) + restK ll bend (fun _ => true) (ll.length - 2 - r) e) (nbL (ll.getD 0 []).length d) 1000000).2.1 c ((nbL_mem hdn.1).2 ⟨hc, by omega, by omega⟩)
    have er : restK ll bend (fun _ => true) (ll.length - 1 - r) d = minGo (fun e => vAt ll r d + bendI bend (d : Int) (e : Int) + restK ll bend (fun _ => true) (ll.length - 2 - r) e) 1000000 (nbL (ll.getD 0 []).length d) := by
      rw [show ll.length - 1 - r = (ll.length - 2 - r) + 1 by omega, restK]
      rw [show ll.length - 2 - (ll.length - 2 - r) = r by omega]
    rw [← er] at hm2
    unfold ceilL
    rw [show ll.length - 1 - (r + 1) = ll.length - 2 - r by omega]
    simp only [vAt] at hm2 ih ⊢
    omega

theorem pricesP_len : (pricesP ll bend).length = ll.length := by simp [pricesP]
theorem pricesP_getD {r : Nat} (hr : r < ll.length) : (pricesP ll bend).getD r [] = priceR ll bend r := by unfold pricesP; rw [getD_map_range hr]
theorem prices_ok (hg : gridErrL 40 12 ll = 0) (hb : 0 ≤ bend ∧ bend ≤ 1000) : priceRows (ll.getD 0 []).length (pricesP ll bend) = 0 ∧ PricesOk ll bend (pricesP ll bend) ∧ boundL (pricesP ll bend) = (bestP ll bend).2.1 := by
  obtain ⟨w1, w2, w3, w4, w5, w6⟩ := gridErr_ok hg
  have hrows : priceRows (ll.getD 0 []).length (pricesP ll bend) = 0 := by
    refine priceRows_of fun r hr => ?_
    simp only [pricesP, List.mem_map, List.mem_range] at hr
    obtain ⟨i, hi, rfl⟩ := hr
    unfold priceRow
    rw [if_pos (priceR_len i), if_pos]
    refine List.all_eq_true.2 fun x hx => ?_
    obtain ⟨c, _, rfl⟩ := mem_getD (d := 0) hx
    have := priceR_bound w6 hb i c (by omega)
    simp only [sizedB, decide_eq_true_eq]
    omega
  have hok : PricesOk ll bend (pricesP ll bend) := fun row hrow c hc => by
    rw [pricesP_len] at hrow
    rw [pricesP_getD hrow]
    unfold mostL
    match row with
    | 0 => rw [if_pos rfl]; exact Int.le_refl _
    | row + 1 =>
      rw [if_neg (by omega), Nat.add_sub_cancel, pricesP_getD (by omega), priceR_getD hc]
      exact Int.le_refl _
  refine ⟨hrows, hok, ?_⟩
  obtain ⟨_, b1, b2, b3⟩ := best_law hg hb
  have hup := bound_cost (pricesP_len (bend := bend)) hrows hok b1 hg
  rw [b2] at hup
  obtain ⟨j, hj, e, h1, h2, h3⟩ := best_first hg hb
  have hlo : (bestP ll bend).2.1 ≤ boundL (pricesP ll bend) := by
    have key : ∀ c, c < (ll.getD 0 []).length → (bestP ll bend).2.1 ≤ (priceR ll bend (ll.length - 1)).getD c 0 := fun c hc => by
      have := price_rest w6 hb (by omega) h1 (ll.length - 1) c (by omega) hc
      rw [Nat.sub_self] at this
      rw [e]
      simp only [restK, if_true] at this ⊢
      omega
    unfold boundL
    rw [pricesP_len, pricesP_getD (by omega), priceR_len]
    have : ∀ n, n ≤ (ll.getD 0 []).length → (bestP ll bend).2.1 ≤ minTo (priceR ll bend (ll.length - 1)) n := fun n => by
      induction n with
      | zero => intro _; exact key 0 w2
      | succ n ih =>
        intro hn
        have h1 := ih (by omega)
        have h2 := key n (by omega)
        unfold minTo
        omega
    exact this _ (Nat.le_refl _)
  omega
end
end Go.Lq

namespace Go.Lq
open Go

section
variable {H : AHeap}

theorem eqv_nil {H : AHeap} : (eqvA 2 (.slice none 0 0) (.slice none 0 0)).map (fun b => (Value.bool (false != b), H)) = some (.bool true, H) := rfl
theorem eqv_some {H : AHeap} {a : Addr} {n c : Nat} : (eqvA 2 (.slice (some a) n c) (.slice none 0 0)).map (fun b => (Value.bool (false != b), H)) = some (.bool false, H) := rfl
theorem r_eqv2 {ρ : Operand → Value} {H : AHeap} {x y : Operand} {neg : Bool} {k : Nat} : ropRun (.eqv k neg x y) ρ H = (eqvA k (ρ x) (ρ y)).map fun b => (.bool (neg != b), H) := rfl

theorem clone_c {l : List Int} {v : Value} (hl : Ints H l v) (hb : l.length ≤ 1000000000) :
    ACall Go.Proofs.Tryd.prog 101 [v] H fun v1 H1 => (0 < l.length → OwnI H H1 l v1) ∧ Ints H1 l v1 ∧ Ext H H1 := by
  have hl' := hl
  rcases hl.2 with ⟨rfl, h0⟩ | ⟨id, off, c, rfl, hc⟩
  · (refine a101 ?_; simp only [n101, List.replicate, List.length_cons, List.length_nil, List.cons_append, List.nil_append])
    ((repeat (first | refine q1 ?_ | refine q2 ?_ | refine q3 ?_ | refine q4 ?_ | refine q5 ?_ | refine q6 ?_ | refine q7 ?_ | refine q8 ?_ | refine q9 ?_ | refine qa ?_ | refine qb ?_ | refine qc ?_ | refine qd ?_ | refine qe (by decide) ?_ | refine qf ?_ | refine qg ?_ | ((first | apply aops_all | apply adraw_all); (simp (disch := first | exact List.all_nil | omega | (simp only [go_sem]; done) | (simp only [ln, List.length_map]; omega) | (repeat' first | assumption | exact Ext.refl _ | refine Ext.app ?_ _)) only [go_sem, r_eqv2, eqv_nil]; rfl)))); (try ((first | apply aops_until | apply adraw_until); (simp (disch := first | exact List.all_nil | omega | (simp only [go_sem]; done) | (simp only [ln, List.length_map]; omega) | (repeat' first | assumption | exact Ext.refl _ | refine Ext.app ?_ _)) only [go_sem, r_eqv2, eqv_nil]; rfl))))
    refine cond_t rfl ?_
    ((repeat (first | refine q1 ?_ | refine q2 ?_ | refine q3 ?_ | refine q4 ?_ | refine q5 ?_ | refine q6 ?_ | refine q7 ?_ | refine q8 ?_ | refine q9 ?_ | refine qa ?_ | refine qb ?_ | refine qc ?_ | refine qd ?_ | refine qe (by decide) ?_ | refine qf ?_ | refine qg ?_ | ((first | apply aops_all | apply adraw_all); (simp (disch := first | exact List.all_nil | omega | (simp only [go_sem]; done) | (simp only [ln, List.length_map]; omega) | (repeat' first | assumption | exact Ext.refl _ | refine Ext.app ?_ _)) only [go_sem]; rfl)))); (try ((first | apply aops_until | apply adraw_until); (simp (disch := first | exact List.all_nil | omega | (simp only [go_sem]; done) | (simp only [ln, List.length_map]; omega) | (repeat' first | assumption | exact Ext.refl _ | refine Ext.app ?_ _)) only [go_sem]; rfl))))
    exact fin_1 ⟨fun h => by omega, hl', Ext.refl _⟩
  · obtain ⟨s, H', ha, hx, id', rfl, hid, ho⟩ := append_copy (bytes := 8) hl' (isAtom_ints l) (roomOk_of (by omega) (by omega))
    (refine a101 ?_; simp only [n101, List.replicate, List.length_cons, List.length_nil, List.cons_append, List.nil_append])
    ((repeat (first | refine q1 ?_ | refine q2 ?_ | refine q3 ?_ | refine q4 ?_ | refine q5 ?_ | refine q6 ?_ | refine q7 ?_ | refine q8 ?_ | refine q9 ?_ | refine qa ?_ | refine qb ?_ | refine qc ?_ | refine qd ?_ | refine qe (by decide) ?_ | refine qf ?_ | refine qg ?_ | ((first | apply aops_all | apply adraw_all); (simp (disch := first | exact List.all_nil | omega | (simp only [go_sem]; done) | (simp only [ln, List.length_map]; omega) | (repeat' first | assumption | exact Ext.refl _ | refine Ext.app ?_ _)) only [go_sem, r_eqv2, eqv_some]; rfl)))); (try ((first | apply aops_until | apply adraw_until); (simp (disch := first | exact List.all_nil | omega | (simp only [go_sem]; done) | (simp only [ln, List.length_map]; omega) | (repeat' first | assumption | exact Ext.refl _ | refine Ext.app ?_ _)) only [go_sem, r_eqv2, eqv_some]; rfl))))
    refine cond_f rfl ?_
    ((repeat (first | refine q1 ?_ | refine q2 ?_ | refine q3 ?_ | refine q4 ?_ | refine q5 ?_ | refine q6 ?_ | refine q7 ?_ | refine q8 ?_ | refine q9 ?_ | refine qa ?_ | refine qb ?_ | refine qc ?_ | refine qd ?_ | refine qe (by decide) ?_ | refine qf ?_ | refine qg ?_ | ((first | apply aops_all | apply adraw_all); (simp (disch := first | exact List.all_nil | omega | (simp only [go_sem]; done) | (simp only [ln, List.length_map]; omega) | (repeat' first | assumption | exact Ext.refl _ | refine Ext.app ?_ _)) only [go_sem, ha]; rfl)))); (try ((first | apply aops_until | apply adraw_until); (simp (disch := first | exact List.all_nil | omega | (simp only [go_sem]; done) | (simp only [ln, List.length_map]; omega) | (repeat' first | assumption | exact Ext.refl _ | refine Ext.app ?_ _)) only [go_sem, ha]; rfl))))
    exact fin_1 ⟨fun h => ⟨by simp, .inr ⟨id', rfl, hid, h, ho⟩⟩, Sl.of ho (by simp), hx⟩
end
end Go.Lq

namespace Go.Lq
open Go
open Go.Proofs

theorem OwnL.one {H0 H : AHeap} {l : List Int} {w : Value} (hx : Ext H0 H) (hw : OwnI H0 H l w) (hl : 0 < l.length) : OwnL H0 (H ++ [.cells true 1 [w]]) [l] (.slice (some ⟨H.length, 0, none⟩) 1 1) := by
  obtain ⟨id, rfl, h1, hc⟩ : ∃ id, w = .slice (some ⟨id, 0, none⟩) l.length l.length ∧ H0.length ≤ id ∧ H[id]? = some (.cells true 1 (l.map (.int .i64))) := by
    rcases hw.2 with ⟨_, h0⟩ | ⟨id, e, h1, _, hc⟩
    · omega
    · exact ⟨id, e, h1, hc⟩
  refine ⟨[.slice (some ⟨id, 0, none⟩) l.length l.length], ⟨rfl, .inr ⟨H.length, rfl, hx.len, by simp, at_new⟩⟩, fun i hi => ?_, fun i j hij hj => ?_⟩
  · have : i = 0 := by simpa using hi
    subst this
    refine ⟨id, rfl, ?_, h1, at_app hc⟩
    have := (List.getElem?_eq_some_iff.1 hc).1
    show H.length ≠ id
    omega
  · simp only [List.length_cons, List.length_nil] at hj
    omega

section
variable {H : AHeap}
theorem before_c {a b : List Int} {va vb : Value} (ha : Ints H a va) (hb : Ints H b vb) (hla : a.length ≤ 1000000000) (hlb : b.length ≤ 1000000000) :
    ACall Go.Proofs.Tryd.prog 80 [va, vb] H fun v H' => v = .bool (beforeL a b) ∧ H' = H := by
  (refine a80 ?_; simp only [n80, List.replicate, List.length_cons, List.length_nil, List.cons_append, List.nil_append])
  ((repeat (first | refine q1 ?_ | refine q2 ?_ | refine q3 ?_ | refine q4 ?_ | refine q5 ?_ | refine q6 ?_ | refine q7 ?_ | refine q8 ?_ | refine q9 ?_ | refine qa ?_ | refine qb ?_ | refine qc ?_ | refine qd ?_ | refine qe (by decide) ?_ | refine qf ?_ | refine qg ?_ | ((first | apply aops_all | apply adraw_all); (simp (disch := first | exact List.all_nil | omega | (simp only [go_sem]; done) | (simp only [ln, List.length_map]; omega) | (repeat' first | assumption | exact Ext.refl _ | refine Ext.app ?_ _)) only [go_sem]; rfl)))); (try ((first | apply aops_until | apply adraw_until); (simp (disch := first | exact List.all_nil | omega | (simp only [go_sem]; done) | (simp only [ln, List.length_map]; omega) | (repeat' first | assumption | exact Ext.refl _ | refine Ext.app ?_ _)) only [go_sem]; rfl))))
  refine awp_loop_n [true, true, false, false, false, true, false, false, false, false, false, false, false, false, false, false, false, false, false, false, false, false, false, false, false, false, false, false, false, false, false, false, false, false, false, false, false, false, false, false, false] a.length (fun i e H' => e = [va, vb, junk, junk, junk, .int .i64 i, junk, junk, junk, junk, junk, junk, junk, junk, junk, junk, junk, junk, junk, junk, junk, junk, junk, junk, junk, junk, junk, junk, junk, junk, junk, junk, junk, junk, junk, junk, junk, junk, junk, junk, junk] ∧ H' = H ∧ beforeL (a.drop i) (b.drop i) = beforeL a b) ?_ ?_
  · exact ⟨by simp [forget], rfl, rfl⟩
  rintro i e H1 hi ⟨rfl, rfl, hbf⟩
  by_cases h1 : i < a.length
  · by_cases h2 : i < b.length
    · rw [drop_getD (d := 0) h1, drop_getD (d := 0) h2, beforeL] at hbf
      ((repeat (first | refine q1 ?_ | refine q2 ?_ | refine q3 ?_ | refine q4 ?_ | refine q5 ?_ | refine q6 ?_ | refine q7 ?_ | refine q8 ?_ | refine q9 ?_ | refine qa ?_ | refine qb ?_ | refine qc ?_ | refine qd ?_ | refine qe (by decide) ?_ | refine qf ?_ | refine qg ?_ | ((first | apply aops_all | apply adraw_all); (simp (disch := first | exact List.all_nil | omega | (simp only [go_sem]; done) | (simp only [ln, List.length_map]; omega) | (repeat' first | assumption | exact Ext.refl _ | refine Ext.app ?_ _)) only [go_sem, ha.len, ha.idx, ha.load, hb.len, hb.idx, hb.load, dec_t (show (i : Int) < (a.length : Int) by omega), dec_t (show (i : Int) < (b.length : Int) by omega)]; rfl)))); (try ((first | apply aops_until | apply adraw_until); (simp (disch := first | exact List.all_nil | omega | (simp only [go_sem]; done) | (simp only [ln, List.length_map]; omega) | (repeat' first | assumption | exact Ext.refl _ | refine Ext.app ?_ _)) only [go_sem, ha.len, ha.idx, ha.load, hb.len, hb.idx, hb.load, dec_t (show (i : Int) < (a.length : Int) by omega), dec_t (show (i : Int) < (b.length : Int) by omega)]; rfl))))
      refine cond_t rfl ?_
      ((repeat (first | refine q1 ?_ | refine q2 ?_ | refine q3 ?_ | refine q4 ?_ | refine q5 ?_ | refine q6 ?_ | refine q7 ?_ | refine q8 ?_ | refine q9 ?_ | refine qa ?_ | refine qb ?_ | refine qc ?_ | refine qd ?_ | refine qe (by decide) ?_ | refine qf ?_ | refine qg ?_ | ((first | apply aops_all | apply adraw_all); (simp (disch := first | exact List.all_nil | omega | (simp only [go_sem]; done) | (simp only [ln, List.length_map]; omega) | (repeat' first | assumption | exact Ext.refl _ | refine Ext.app ?_ _)) only [go_sem, ha.len, ha.idx, ha.load, hb.len, hb.idx, hb.load]; rfl)))); (try ((first | apply aops_until | apply adraw_until); (simp (disch := first | exact List.all_nil | omega | (simp only [go_sem]; done) | (simp only [ln, List.length_map]; omega) | (repeat' first | assumption | exact Ext.refl _ | refine Ext.app ?_ _)) only [go_sem, ha.len, ha.idx, ha.load, hb.len, hb.idx, hb.load]; rfl))))
      refine cond_p rfl (fun hne => ?_) (fun he => ?_)
      · rw [if_neg hne] at hbf
        ((repeat (first | refine q1 ?_ | refine q2 ?_ | refine q3 ?_ | refine q4 ?_ | refine q5 ?_ | refine q6 ?_ | refine q7 ?_ | refine q8 ?_ | refine q9 ?_ | refine qa ?_ | refine qb ?_ | refine qc ?_ | refine qd ?_ | refine qe (by decide) ?_ | refine qf ?_ | refine qg ?_ | ((first | apply aops_all | apply adraw_all); (simp (disch := first | exact List.all_nil | omega | (simp only [go_sem]; done) | (simp only [ln, List.length_map]; omega) | (repeat' first | assumption | exact Ext.refl _ | refine Ext.app ?_ _)) only [go_sem, ha.len, ha.idx, ha.load, hb.len, hb.idx, hb.load]; rfl)))); (try ((first | apply aops_until | apply adraw_until); (simp (disch := first | exact List.all_nil | omega | (simp only [go_sem]; done) | (simp only [ln, List.length_map]; omega) | (repeat' first | assumption | exact Ext.refl _ | refine Ext.app ?_ _)) only [go_sem, ha.len, ha.idx, ha.load, hb.len, hb.idx, hb.load]; rfl))))
        exact fin_1 ⟨by rw [← hbf]; rfl, rfl⟩
      · rw [if_pos (Decidable.not_not.1 he)] at hbf
        ((repeat (first | refine q1 ?_ | refine q2 ?_ | refine q3 ?_ | refine q4 ?_ | refine q5 ?_ | refine q6 ?_ | refine q7 ?_ | refine q8 ?_ | refine q9 ?_ | refine qa ?_ | refine qb ?_ | refine qc ?_ | refine qd ?_ | refine qe (by decide) ?_ | refine qf ?_ | refine qg ?_ | ((first | apply aops_all | apply adraw_all); (simp (disch := first | exact List.all_nil | omega | (simp only [go_sem]; done) | (simp only [ln, List.length_map]; omega) | (repeat' first | assumption | exact Ext.refl _ | refine Ext.app ?_ _)) only [go_sem]; rfl)))); (try ((first | apply aops_until | apply adraw_until); (simp (disch := first | exact List.all_nil | omega | (simp only [go_sem]; done) | (simp only [ln, List.length_map]; omega) | (repeat' first | assumption | exact Ext.refl _ | refine Ext.app ?_ _)) only [go_sem]; rfl))))
        exact ⟨by omega, by simp [forget], rfl, hbf⟩
    · rw [drop_getD (d := 0) h1, drop_end (l := b) (by omega), beforeL] at hbf
      ((repeat (first | refine q1 ?_ | refine q2 ?_ | refine q3 ?_ | refine q4 ?_ | refine q5 ?_ | refine q6 ?_ | refine q7 ?_ | refine q8 ?_ | refine q9 ?_ | refine qa ?_ | refine qb ?_ | refine qc ?_ | refine qd ?_ | refine qe (by decide) ?_ | refine qf ?_ | refine qg ?_ | ((first | apply aops_all | apply adraw_all); (simp (disch := first | exact List.all_nil | omega | (simp only [go_sem]; done) | (simp only [ln, List.length_map]; omega) | (repeat' first | assumption | exact Ext.refl _ | refine Ext.app ?_ _)) only [go_sem, ha.len, ha.idx, ha.load, hb.len, hb.idx, hb.load, dec_t (show (i : Int) < (a.length : Int) by omega), dec_f (show ¬ (i : Int) < (b.length : Int) by omega)]; rfl)))); (try ((first | apply aops_until | apply adraw_until); (simp (disch := first | exact List.all_nil | omega | (simp only [go_sem]; done) | (simp only [ln, List.length_map]; omega) | (repeat' first | assumption | exact Ext.refl _ | refine Ext.app ?_ _)) only [go_sem, ha.len, ha.idx, ha.load, hb.len, hb.idx, hb.load, dec_t (show (i : Int) < (a.length : Int) by omega), dec_f (show ¬ (i : Int) < (b.length : Int) by omega)]; rfl))))
      refine cond_f rfl ?_
      ((repeat (first | refine q1 ?_ | refine q2 ?_ | refine q3 ?_ | refine q4 ?_ | refine q5 ?_ | refine q6 ?_ | refine q7 ?_ | refine q8 ?_ | refine q9 ?_ | refine qa ?_ | refine qb ?_ | refine qc ?_ | refine qd ?_ | refine qe (by decide) ?_ | refine qf ?_ | refine qg ?_ | ((first | apply aops_all | apply adraw_all); (simp (disch := first | exact List.all_nil | omega | (simp only [go_sem]; done) | (simp only [ln, List.length_map]; omega) | (repeat' first | assumption | exact Ext.refl _ | refine Ext.app ?_ _)) only [go_sem, ha.len, ha.idx, ha.load, hb.len, hb.idx, hb.load]; rfl)))); (try ((first | apply aops_until | apply adraw_until); (simp (disch := first | exact List.all_nil | omega | (simp only [go_sem]; done) | (simp only [ln, List.length_map]; omega) | (repeat' first | assumption | exact Ext.refl _ | refine Ext.app ?_ _)) only [go_sem, ha.len, ha.idx, ha.load, hb.len, hb.idx, hb.load]; rfl))))
      exact fin_1 ⟨by rw [← hbf]; exact congrArg _ (decide_eq_false (by omega)), rfl⟩
  · rw [drop_end (l := a) (by omega)] at hbf
    ((repeat (first | refine q1 ?_ | refine q2 ?_ | refine q3 ?_ | refine q4 ?_ | refine q5 ?_ | refine q6 ?_ | refine q7 ?_ | refine q8 ?_ | refine q9 ?_ | refine qa ?_ | refine qb ?_ | refine qc ?_ | refine qd ?_ | refine qe (by decide) ?_ | refine qf ?_ | refine qg ?_ | ((first | apply aops_all | apply adraw_all); (simp (disch := first | exact List.all_nil | omega | (simp only [go_sem]; done) | (simp only [ln, List.length_map]; omega) | (repeat' first | assumption | exact Ext.refl _ | refine Ext.app ?_ _)) only [go_sem, ha.len, ha.idx, ha.load, hb.len, hb.idx, hb.load, dec_f (show ¬ (i : Int) < (a.length : Int) by omega)]; rfl)))); (try ((first | apply aops_until | apply adraw_until); (simp (disch := first | exact List.all_nil | omega | (simp only [go_sem]; done) | (simp only [ln, List.length_map]; omega) | (repeat' first | assumption | exact Ext.refl _ | refine Ext.app ?_ _)) only [go_sem, ha.len, ha.idx, ha.load, hb.len, hb.idx, hb.load, dec_f (show ¬ (i : Int) < (a.length : Int) by omega)]; rfl))))
    refine cond_f rfl ?_
    ((repeat (first | refine q1 ?_ | refine q2 ?_ | refine q3 ?_ | refine q4 ?_ | refine q5 ?_ | refine q6 ?_ | refine q7 ?_ | refine q8 ?_ | refine q9 ?_ | refine qa ?_ | refine qb ?_ | refine qc ?_ | refine qd ?_ | refine qe (by decide) ?_ | refine qf ?_ | refine qg ?_ | ((first | apply aops_all | apply adraw_all); (simp (disch := first | exact List.all_nil | omega | (simp only [go_sem]; done) | (simp only [ln, List.length_map]; omega) | (repeat' first | assumption | exact Ext.refl _ | refine Ext.app ?_ _)) only [go_sem, ha.len, ha.idx, ha.load, hb.len, hb.idx, hb.load]; rfl)))); (try ((first | apply aops_until | apply adraw_until); (simp (disch := first | exact List.all_nil | omega | (simp only [go_sem]; done) | (simp only [ln, List.length_map]; omega) | (repeat' first | assumption | exact Ext.refl _ | refine Ext.app ?_ _)) only [go_sem, ha.len, ha.idx, ha.load, hb.len, hb.idx, hb.load]; rfl))))
    refine fin_1 ⟨?_, rfl⟩
    rw [← hbf]
    by_cases h2 : i < b.length
    · rw [drop_getD (d := 0) h2, beforeL]
      exact congrArg _ (decide_eq_true (by omega))
    · rw [drop_end (l := b) (by omega), beforeL]
      exact congrArg _ (decide_eq_false (by omega))

set_option maxHeartbeats 1000000 in
theorem prices_c {ll : List (List Int)} {vs : List Value} {v : Value} {bend : Int} (hL : Lists H ll vs v) (ht : taskErrL ll bend = 0) :
    ACall Go.Proofs.Tryd.prog 79 [.agg ⟨[v, .int .i64 bend]⟩] H fun v1 H' => v1 = .tuple #[retLV H (pricesP ll bend), .int .i64 0] ∧ H' = H ++ retLN H (pricesP ll bend) := by
  refine ACall.tidyL (f := fun s => .tuple #[s, .int .i64 0]) (wraps_1 (.int _ _)) ?_
  obtain ⟨hg, hbe⟩ := taskErr_ok ht
  obtain ⟨w1, w2, w3, w4, w5, w6⟩ := gridErr_ok hg
  (refine a79 ?_; simp only [n79, List.replicate, List.length_cons, List.length_nil, List.cons_append, List.nil_append])
  ((repeat (first | refine q1 ?_ | refine q2 ?_ | refine q3 ?_ | refine q4 ?_ | refine q5 ?_ | refine q6 ?_ | refine q7 ?_ | refine q8 ?_ | refine q9 ?_ | refine qa ?_ | refine qb ?_ | refine qc ?_ | refine qd ?_ | refine qe (by decide) ?_ | refine qf ?_ | refine qg ?_ | ((first | apply aops_all | apply adraw_all); (simp (disch := first | exact List.all_nil | omega | (simp only [go_sem]; done) | (simp only [ln, List.length_map]; omega) | (repeat' first | assumption | exact Ext.refl _ | refine Ext.app ?_ _)) only [go_sem, hL.box2]; rfl)))); (try ((first | apply aops_until | apply adraw_until); (simp (disch := first | exact List.all_nil | omega | (simp only [go_sem]; done) | (simp only [ln, List.length_map]; omega) | (repeat' first | assumption | exact Ext.refl _ | refine Ext.app ?_ _)) only [go_sem, hL.box2]; rfl))))
  refine aops_call ((open_c (bend := bend) (hL.ext ((Ext.refl H).app [AObj.cells true 0 [v, .int .i64 bend]])) (by omega) (fun i hi => by have := w5 i hi; omega)).mono fun v1 H1 ⟨e1, x11⟩ => ?_)
  subst e1
  have xH : Ext H H1 := ((Ext.refl H).app _).trans x11
  have g0 := x11.cell (at_new : (H ++ [AObj.cells true 0 [v, .int .i64 bend]])[H.length]? = some (.cells true 0 [v, .int .i64 bend]))
  rw [ht]
  ((repeat (first | refine q1 ?_ | refine q2 ?_ | refine q3 ?_ | refine q4 ?_ | refine q5 ?_ | refine q6 ?_ | refine q7 ?_ | refine q8 ?_ | refine q9 ?_ | refine qa ?_ | refine qb ?_ | refine qc ?_ | refine qd ?_ | refine qe (by decide) ?_ | refine qf ?_ | refine qg ?_ | ((first | apply aops_all | apply adraw_all); (simp (disch := first | exact List.all_nil | omega | (simp only [go_sem]; done) | (simp only [ln, List.length_map]; omega) | (repeat' first | assumption | exact Ext.refl _ | refine Ext.app ?_ _)) only [go_sem, store_newT hL.atom]; rfl)))); (try ((first | apply aops_until | apply adraw_until); (simp (disch := first | exact List.all_nil | omega | (simp only [go_sem]; done) | (simp only [ln, List.length_map]; omega) | (repeat' first | assumption | exact Ext.refl _ | refine Ext.app ?_ _)) only [go_sem, store_newT hL.atom]; rfl))))
  refine cond_f rfl ?_
  have x2 : Ext H (H1 ++ [AObj.cells true 0 [v, .int .i64 bend]]) := xH.app _
  have g2 : (H1 ++ [AObj.cells true 0 [v, .int .i64 bend]])[H1.length]? = some (.cells true 0 [v, .int .i64 bend]) := at_new
  have g02 := at_app (N := [AObj.cells true 0 [v, .int .i64 bend]]) g0
  generalize (H1 ++ [AObj.cells true 0 [v, .int .i64 bend]] : AHeap) = H2 at x2 g2 g02
  have hL2 := hL.ext x2
  have hrow2 := hL2.row w1
  ((repeat (first | refine q1 ?_ | refine q2 ?_ | refine q3 ?_ | refine q4 ?_ | refine q5 ?_ | refine q6 ?_ | refine q7 ?_ | refine q8 ?_ | refine q9 ?_ | refine qa ?_ | refine qb ?_ | refine qc ?_ | refine qd ?_ | refine qe (by decide) ?_ | refine qf ?_ | refine qg ?_ | ((first | apply aops_all | apply adraw_all); (simp (disch := first | exact List.all_nil | omega | (simp only [go_sem]; done) | (simp only [ln, List.length_map]; omega) | (repeat' first | assumption | exact Ext.refl _ | refine Ext.app ?_ _)) only [go_sem, hL2.len, hL2.idx, hL2.load, load_at g02, show (0 : Int).toNat = 0 from rfl]; rfl)))); (try ((first | apply aops_until | apply adraw_until); (simp (disch := first | exact List.all_nil | omega | (simp only [go_sem]; done) | (simp only [ln, List.length_map]; omega) | (repeat' first | assumption | exact Ext.refl _ | refine Ext.app ?_ _)) only [go_sem, hL2.len, hL2.idx, hL2.load, load_at g02, show (0 : Int).toNat = 0 from rfl]; rfl))))
  refine aops_call ((clone_c hrow2 (by omega)).mono fun v1 H3 ⟨hown, _, x3⟩ => ?_)
  have hown := hown w2
  obtain ⟨sa, sn, sc, rfl⟩ := hown.shape
  have x23 := x2.trans x3
  have hone := OwnL.one x3 hown w2
  ((repeat (first | refine q1 ?_ | refine q2 ?_ | refine q3 ?_ | refine q4 ?_ | refine q5 ?_ | refine q6 ?_ | refine q7 ?_ | refine q8 ?_ | refine q9 ?_ | refine qa ?_ | refine qb ?_ | refine qc ?_ | refine qd ?_ | refine qe (by decide) ?_ | refine qf ?_ | refine qg ?_ | ((first | apply aops_all | apply adraw_all); (simp (disch := first | exact List.all_nil | omega | (simp only [go_sem]; done) | (simp only [ln, List.length_map]; omega) | (repeat' first | assumption | exact Ext.refl _ | refine Ext.app ?_ _)) only [go_sem, fillA_slice]; rfl)))); (try ((first | apply aops_until | apply adraw_until); (simp (disch := first | exact List.all_nil | omega | (simp only [go_sem]; done) | (simp only [ln, List.length_map]; omega) | (repeat' first | assumption | exact Ext.refl _ | refine Ext.app ?_ _)) only [go_sem, fillA_slice]; rfl))))
  have x4 : Ext H2 (H3 ++ [AObj.cells true 1 [.slice sa sn sc]]) := x3.app _
  generalize (H3 ++ [AObj.cells true 1 [.slice sa sn sc]] : AHeap) = H4 at hone x4
  refine awp_loop_n [false, false, false, false, true, false, true, true, false, false, false, false, false, false, false, false, false, false, false, false, false, false, false, false, false, false, false, false, false, false, false, false, false, false, false, false, false, false, false, false, false, false, false, false, false, false, false, false, false, false, false, false, false] (ll.length - 1) (fun i e H' => ∃ pv, e = [junk, junk, junk, junk, .pointer (some ⟨H1.length, 0, none⟩), junk, pv, .int .i64 ((i + 1 : Nat) : Int), junk, junk, junk, junk, junk, junk, junk, junk, junk, junk, junk, junk, junk, junk, junk, junk, junk, junk, junk, junk, junk, junk, junk, junk, junk, junk, junk, junk, junk, junk, junk, junk, junk, junk, junk, junk, junk, junk, junk, junk, junk, junk, junk, junk, junk] ∧ Ext H2 H' ∧ OwnL H2 H' ((List.range (i + 1)).map (priceR ll bend)) pv) ?_ ?_
  · exact ⟨_, by simp [forget], x4, hone⟩
  rintro i e H5 hi ⟨pv, rfl, x5, hol⟩
  have hL5 := hL2.ext x5
  have g5 := x5.cell g2
  ((repeat (first | refine q1 ?_ | refine q2 ?_ | refine q3 ?_ | refine q4 ?_ | refine q5 ?_ | refine q6 ?_ | refine q7 ?_ | refine q8 ?_ | refine q9 ?_ | refine qa ?_ | refine qb ?_ | refine qc ?_ | refine qd ?_ | refine qe (by decide) ?_ | refine qf ?_ | refine qg ?_ | ((first | apply aops_all | apply adraw_all); (simp (disch := first | exact List.all_nil | omega | (simp only [go_sem]; done) | (simp only [ln, List.length_map]; omega) | (repeat' first | assumption | exact Ext.refl _ | refine Ext.app ?_ _)) only [go_sem, loadN_at g5]; rfl)))); (try ((first | apply aops_until | apply adraw_until); (simp (disch := first | exact List.all_nil | omega | (simp only [go_sem]; done) | (simp only [ln, List.length_map]; omega) | (repeat' first | assumption | exact Ext.refl _ | refine Ext.app ?_ _)) only [go_sem, loadN_at g5]; rfl))))
  refine aops_call_to (last_c hL5 (by omega)) ?_
  ((repeat (first | refine q1 ?_ | refine q2 ?_ | refine q3 ?_ | refine q4 ?_ | refine q5 ?_ | refine q6 ?_ | refine q7 ?_ | refine q8 ?_ | refine q9 ?_ | refine qa ?_ | refine qb ?_ | refine qc ?_ | refine qd ?_ | refine qe (by decide) ?_ | refine qf ?_ | refine qg ?_ | ((first | apply aops_all | apply adraw_all); (simp (disch := first | exact List.all_nil | omega | (simp only [go_sem]; done) | (simp only [ln, List.length_map]; omega) | (repeat' first | assumption | exact Ext.refl _ | refine Ext.app ?_ _)) only [go_sem]; rfl)))); (try ((first | apply aops_until | apply adraw_until); (simp (disch := first | exact List.all_nil | omega | (simp only [go_sem]; done) | (simp only [ln, List.length_map]; omega) | (repeat' first | assumption | exact Ext.refl _ | refine Ext.app ?_ _)) only [go_sem]; rfl))))
  refine cond_p rfl (fun hle => ?_) (fun hgt => ?_)
  rotate_left 1
  · obtain rfl : i = ll.length - 1 := by omega
    ((repeat (first | refine q1 ?_ | refine q2 ?_ | refine q3 ?_ | refine q4 ?_ | refine q5 ?_ | refine q6 ?_ | refine q7 ?_ | refine q8 ?_ | refine q9 ?_ | refine qa ?_ | refine qb ?_ | refine qc ?_ | refine qd ?_ | refine qe (by decide) ?_ | refine qf ?_ | refine qg ?_ | ((first | apply aops_all | apply adraw_all); (simp (disch := first | exact List.all_nil | omega | (simp only [go_sem]; done) | (simp only [ln, List.length_map]; omega) | (repeat' first | assumption | exact Ext.refl _ | refine Ext.app ?_ _)) only [go_sem]; rfl)))); (try ((first | apply aops_until | apply adraw_until); (simp (disch := first | exact List.all_nil | omega | (simp only [go_sem]; done) | (simp only [ln, List.length_map]; omega) | (repeat' first | assumption | exact Ext.refl _ | refine Ext.app ?_ _)) only [go_sem]; rfl))))
    refine fin_2 ⟨pv, rfl, x2.trans x5, ?_⟩
    rw [show ll.length - 1 + 1 = ll.length by omega] at hol
    exact hol.weaken x2.len
  have hi' : i + 1 < ll.length := by omega
  ((repeat (first | refine q1 ?_ | refine q2 ?_ | refine q3 ?_ | refine q4 ?_ | refine q5 ?_ | refine q6 ?_ | refine q7 ?_ | refine q8 ?_ | refine q9 ?_ | refine qa ?_ | refine qb ?_ | refine qc ?_ | refine qd ?_ | refine qe (by decide) ?_ | refine qf ?_ | refine qg ?_ | ((first | apply aops_all | apply adraw_all); (simp (disch := first | exact List.all_nil | omega | (simp only [go_sem]; done) | (simp only [ln, List.length_map]; omega) | (repeat' first | assumption | exact Ext.refl _ | refine Ext.app ?_ _)) only [go_sem, loadN_at g5]; rfl)))); (try ((first | apply aops_until | apply adraw_until); (simp (disch := first | exact List.all_nil | omega | (simp only [go_sem]; done) | (simp only [ln, List.length_map]; omega) | (repeat' first | assumption | exact Ext.refl _ | refine Ext.app ?_ _)) only [go_sem, loadN_at g5]; rfl))))
  refine aops_call_to (columns_c hL5 w1) ?_
  ((repeat (first | refine q1 ?_ | refine q2 ?_ | refine q3 ?_ | refine q4 ?_ | refine q5 ?_ | refine q6 ?_ | refine q7 ?_ | refine q8 ?_ | refine q9 ?_ | refine qa ?_ | refine qb ?_ | refine qc ?_ | refine qd ?_ | refine qe (by decide) ?_ | refine qf ?_ | refine qg ?_ | ((first | apply aops_all | apply adraw_all); (simp (disch := first | exact List.all_nil | omega | (simp only [go_sem]; done) | (simp only [ln, List.length_map]; omega) | (repeat' first | assumption | exact Ext.refl _ | refine Ext.app ?_ _)) only [go_sem]; rfl)))); (try ((first | apply aops_until | apply adraw_until); (simp (disch := first | exact List.all_nil | omega | (simp only [go_sem]; done) | (simp only [ln, List.length_map]; omega) | (repeat' first | assumption | exact Ext.refl _ | refine Ext.app ?_ _)) only [go_sem]; rfl))))
  obtain ⟨us, hT⟩ := hol.lists
  have hTl : ((List.range (i + 1)).map (priceR ll bend)).length = i + 1 := by simp
  have hTr := hT.row (k := i) (by omega)
  rw [getD_map_range (by omega)] at hTr
  refine awp_loop_n [false, false, false, false, true, false, true, true, true, false, false, false, false, false, false, false, false, false, false, false, false, false, false, false, false, false, false, false, false, false, false, true, true, false, false, false, false, false, false, false, false, false, false, false, false, false, false, false, false, false, false, false, false] (ll.getD 0 []).length (fun c e H' => ∃ ov, e = [junk, junk, junk, junk, .pointer (some ⟨H1.length, 0, none⟩), junk, pv, .int .i64 ((i + 1 : Nat) : Int), ov, junk, junk, junk, junk, junk, junk, junk, junk, junk, junk, junk, junk, junk, junk, junk, junk, junk, junk, junk, junk, junk, junk, .int .i64 ((ll.getD 0 []).length : Nat), .int .i64 c, junk, junk, junk, junk, junk, junk, junk, junk, junk, junk, junk, junk, junk, junk, junk, junk, junk, junk, junk, junk] ∧ Ext H5 H' ∧ OwnI H5 H' ((List.range c).map fun c => ceilL ll bend (priceR ll bend i) (i + 1) c) ov) ?_ ?_
  · exact ⟨.slice none 0 0, by simp [forget], Ext.refl _, OwnI.nil _ _⟩
  rintro c e H6 hc ⟨ov, rfl, x6, ho⟩
  have hol' : ((List.range c).map fun c => ceilL ll bend (priceR ll bend i) (i + 1) c).length = c := by simp
  ((repeat (first | refine q1 ?_ | refine q2 ?_ | refine q3 ?_ | refine q4 ?_ | refine q5 ?_ | refine q6 ?_ | refine q7 ?_ | refine q8 ?_ | refine q9 ?_ | refine qa ?_ | refine qb ?_ | refine qc ?_ | refine qd ?_ | refine qe (by decide) ?_ | refine qf ?_ | refine qg ?_ | ((first | apply aops_all | apply adraw_all); (simp (disch := first | exact List.all_nil | omega | (simp only [go_sem]; done) | (simp only [ln, List.length_map]; omega) | (repeat' first | assumption | exact Ext.refl _ | refine Ext.app ?_ _)) only [go_sem]; rfl)))); (try ((first | apply aops_until | apply adraw_until); (simp (disch := first | exact List.all_nil | omega | (simp only [go_sem]; done) | (simp only [ln, List.length_map]; omega) | (repeat' first | assumption | exact Ext.refl _ | refine Ext.app ?_ _)) only [go_sem]; rfl))))
  refine cond_p rfl (fun hlt => ?_) (fun hge => ?_)
  rotate_left 1
  · obtain rfl : c = (ll.getD 0 []).length := by omega
    obtain ⟨nv, H7, p1, p2, p3⟩ := hol.pushRow x5 x6 ho (by omega) (by omega)
    obtain ⟨ta, tn, tc, rfl⟩ := ho.shape
    ((repeat (first | refine q1 ?_ | refine q2 ?_ | refine q3 ?_ | refine q4 ?_ | refine q5 ?_ | refine q6 ?_ | refine q7 ?_ | refine q8 ?_ | refine q9 ?_ | refine qa ?_ | refine qb ?_ | refine qc ?_ | refine qd ?_ | refine qe (by decide) ?_ | refine qf ?_ | refine qg ?_ | ((first | apply aops_all | apply adraw_all); (simp (disch := first | exact List.all_nil | omega | (simp only [go_sem]; done) | (simp only [ln, List.length_map]; omega) | (repeat' first | assumption | exact Ext.refl _ | refine Ext.app ?_ _)) only [go_sem, fillA_slice, p1]; rfl)))); (try ((first | apply aops_until | apply adraw_until); (simp (disch := first | exact List.all_nil | omega | (simp only [go_sem]; done) | (simp only [ln, List.length_map]; omega) | (repeat' first | assumption | exact Ext.refl _ | refine Ext.app ?_ _)) only [go_sem, fillA_slice, p1]; rfl))))
    refine ⟨by omega, nv, by simp [forget], p3, ?_⟩
    rw [List.range_succ, List.map_append]
    exact p2
  have hc' : c < (ll.getD 0 []).length := by omega
  have hL6 := hL5.ext x6
  have hT6 := hT.ext x6
  have hpr : ∀ d : Nat, -1000000 ≤ (priceR ll bend i).getD d 0 ∧ (priceR ll bend i).getD d 0 ≤ 1000000 := fun d => by
    have := priceR_bound w6 hbe i d (by omega); omega
  ((repeat (first | refine q1 ?_ | refine q2 ?_ | refine q3 ?_ | refine q4 ?_ | refine q5 ?_ | refine q6 ?_ | refine q7 ?_ | refine q8 ?_ | refine q9 ?_ | refine qa ?_ | refine qb ?_ | refine qc ?_ | refine qd ?_ | refine qe (by decide) ?_ | refine qf ?_ | refine qg ?_ | ((first | apply aops_all | apply adraw_all); (simp (disch := first | exact List.all_nil | omega | (simp only [go_sem]; done) | (simp only [ln, List.length_map]; omega) | (repeat' first | assumption | exact Ext.refl _ | refine Ext.app ?_ _)) only [go_sem, hT6.len, hT6.idx, hT6.load, loadN_at (x6.cell g5), show (((i + 1 : Nat) : Int) - 1).toNat = i by omega]; rfl)))); (try ((first | apply aops_until | apply adraw_until); (simp (disch := first | exact List.all_nil | omega | (simp only [go_sem]; done) | (simp only [ln, List.length_map]; omega) | (repeat' first | assumption | exact Ext.refl _ | refine Ext.app ?_ _)) only [go_sem, hT6.len, hT6.idx, hT6.load, loadN_at (x6.cell g5), show (((i + 1 : Nat) : Int) - 1).toNat = i by omega]; rfl))))
  refine adraw_call (N := []) (firstD (ceiling_c (row := i + 1) (c := c) hL6 (hTr.ext x6) hg hbe (priceR_len i) hpr hi' hc')) ?_
  rw [List.append_nil]
  ((repeat (first | refine q1 ?_ | refine q2 ?_ | refine q3 ?_ | refine q4 ?_ | refine q5 ?_ | refine q6 ?_ | refine q7 ?_ | refine q8 ?_ | refine q9 ?_ | refine qa ?_ | refine qb ?_ | refine qc ?_ | refine qd ?_ | refine qe (by decide) ?_ | refine qf ?_ | refine qg ?_ | ((first | apply aops_all | apply adraw_all); (simp (disch := first | exact List.all_nil | omega | (simp only [go_sem]; done) | (simp only [ln, List.length_map]; omega) | (repeat' first | assumption | exact Ext.refl _ | refine Ext.app ?_ _)) only [go_sem, ho.push (show _ < 1000000000 by omega) (ceilL ll bend (priceR ll bend i) (i + 1) c)]; rfl)))); (try ((first | apply aops_until | apply adraw_until); (simp (disch := first | exact List.all_nil | omega | (simp only [go_sem]; done) | (simp only [ln, List.length_map]; omega) | (repeat' first | assumption | exact Ext.refl _ | refine Ext.app ?_ _)) only [go_sem, ho.push (show _ < 1000000000 by omega) (ceilL ll bend (priceR ll bend i) (i + 1) c)]; rfl))))
  refine ⟨by omega, _, by simp [forget]; rfl, ho.ext x6 _, ?_⟩
  have hp := ho.pushed x6 (ceilL ll bend (priceR ll bend i) (i + 1) c)
  rw [hol'] at hp
  rw [List.range_succ, List.map_append]
  exact hp
end
end Go.Lq

namespace Go.Lq
open Go
open Go.Proofs

theorem firstErr_priceRow (w : Nat) (r : List Int) : firstErr [if decide ((r.length : Int) = (w : Int)) = true then 0 else 10, if (!r.any fun n => !sizedB 1000000 n) = true then 0 else 2] = priceRow w r := by
  have e : (!r.any fun n => !sizedB 1000000 n) = r.all (sizedB 1000000) := by
    rw [← List.not_all_eq_any_not, Bool.not_not]
  rw [e]
  unfold firstErr priceRow
  by_cases h1 : r.length = w
  · cases r.all (sizedB 1000000) <;> simp [h1]
  · have h1' : ¬ (r.length : Int) = w := by omega
    simp [h1, h1']

noncomputable def priceErrA (ll : List (List Int)) (bend : Int) (pp : List (List Int)) : Int := if taskErrL ll bend = 0 then pricesErrL ll bend pp else taskErrL ll bend

section
variable {H : AHeap}
theorem checkPrices_c {ll pp : List (List Int)} {vs ws : List Value} {v vp : Value} {bend : Int} (hL : Lists H ll vs v) (hP : Lists H pp ws vp) (hb : ll.length ≤ 1000000000) (hr : ∀ i, i < ll.length → (ll.getD i []).length ≤ 1000000000)
    (hbp : pp.length ≤ 1000000) (hrp : ∀ i, i < pp.length → (pp.getD i []).length ≤ 1000000) :
    ACall Go.Proofs.Tryd.prog 57 [.agg ⟨[v, .int .i64 bend]⟩, vp] H fun v1 H1 => v1 = .tuple #[.int .i64 (if priceErrA ll bend pp = 0 then boundL pp else 0), .int .i64 (priceErrA ll bend pp)] ∧ H1 = H := by
  refine ACall.drop (closed_two _ _) ?_
  (refine a57 ?_; simp only [n57, List.replicate, List.length_cons, List.length_nil, List.cons_append, List.nil_append])
  ((repeat (first | refine q1 ?_ | refine q2 ?_ | refine q3 ?_ | refine q4 ?_ | refine q5 ?_ | refine q6 ?_ | refine q7 ?_ | refine q8 ?_ | refine q9 ?_ | refine qa ?_ | refine qb ?_ | refine qc ?_ | refine qd ?_ | refine qe (by decide) ?_ | refine qf ?_ | refine qg ?_ | ((first | apply aops_all | apply adraw_all); (simp (disch := first | exact List.all_nil | omega | (simp only [go_sem]; done) | (simp only [ln, List.length_map]; omega) | (repeat' first | assumption | exact Ext.refl _ | refine Ext.app ?_ _)) only [go_sem, hL.box2]; rfl)))); (try ((first | apply aops_until | apply adraw_until); (simp (disch := first | exact List.all_nil | omega | (simp only [go_sem]; done) | (simp only [ln, List.length_map]; omega) | (repeat' first | assumption | exact Ext.refl _ | refine Ext.app ?_ _)) only [go_sem, hL.box2]; rfl))))
  have g0 : (H ++ [AObj.cells true 0 [v, .int .i64 bend]])[H.length]? = some (.cells true 0 [v, .int .i64 bend]) := at_new
  have xG : Ext H (H ++ [AObj.cells true 0 [v, .int .i64 bend]]) := (Ext.refl H).app _
  refine aops_call ((open_c (hL.ext xG) hb hr).mono fun v1 H1 ⟨e1, hx1⟩ => ?_)
  subst e1
  have hst := store_at2v (at_new (H := H1) (o := true) (e := 0) (vs := [.slice none 0 0, .int .i64 0])) hL.atom (isAtom_int .i64 bend)
  ((repeat (first | refine q1 ?_ | refine q2 ?_ | refine q3 ?_ | refine q4 ?_ | refine q5 ?_ | refine q6 ?_ | refine q7 ?_ | refine q8 ?_ | refine q9 ?_ | refine qa ?_ | refine qb ?_ | refine qc ?_ | refine qd ?_ | refine qe (by decide) ?_ | refine qf ?_ | refine qg ?_ | ((first | apply aops_all | apply adraw_all); (simp (disch := first | exact List.all_nil | omega | (simp only [go_sem]; done) | (simp only [ln, List.length_map]; omega) | (repeat' first | assumption | exact Ext.refl _ | refine Ext.app ?_ _)) only [go_sem, hst]; rfl)))); (try ((first | apply aops_until | apply adraw_until); (simp (disch := first | exact List.all_nil | omega | (simp only [go_sem]; done) | (simp only [ln, List.length_map]; omega) | (repeat' first | assumption | exact Ext.refl _ | refine Ext.app ?_ _)) only [go_sem, hst]; rfl))))
  obtain ⟨k, hk⟩ : ∃ k, k = H1.length := ⟨_, rfl⟩
  obtain ⟨G2, hG2⟩ : ∃ G2, G2 = (H1 ++ [AObj.cells true 0 [.slice none 0 0, .int .i64 0]]).set H1.length (.cells true 0 [v, .int .i64 bend]) := ⟨_, rfl⟩
  have gk : G2[k]? = some (.cells true 0 [v, .int .i64 bend]) := by rw [hG2, hk]; exact get_set_self at_new
  have x2 : Ext H1 G2 := by rw [hG2]; exact ((Ext.refl H1).app _).set (Nat.le_refl _) _
  have g02 := (hx1.trans x2).cell g0
  have xG2 := (xG.trans hx1).trans x2
  rw [← hG2, ← hk]
  clear hG2
  have hL2 := hL.ext xG2
  have hP2 := hP.ext xG2
  ((repeat (first | refine q1 ?_ | refine q2 ?_ | refine q3 ?_ | refine q4 ?_ | refine q5 ?_ | refine q6 ?_ | refine q7 ?_ | refine q8 ?_ | refine q9 ?_ | refine qa ?_ | refine qb ?_ | refine qc ?_ | refine qd ?_ | refine qe (by decide) ?_ | refine qf ?_ | refine qg ?_ | ((first | apply aops_all | apply adraw_all); (simp (disch := first | exact List.all_nil | omega | (simp only [go_sem]; done) | (simp only [ln, List.length_map]; omega) | (repeat' first | assumption | exact Ext.refl _ | refine Ext.app ?_ _)) only [go_sem, hP2.len, hP2.idx, hP2.load, hL2.len, hL2.idx, hL2.load, load_at g02]; rfl)))); (try ((first | apply aops_until | apply adraw_until); (simp (disch := first | exact List.all_nil | omega | (simp only [go_sem]; done) | (simp only [ln, List.length_map]; omega) | (repeat' first | assumption | exact Ext.refl _ | refine Ext.app ?_ _)) only [go_sem, hP2.len, hP2.idx, hP2.load, hL2.len, hL2.idx, hL2.load, load_at g02]; rfl))))
  refine aops_call_to (unless_c _ _) ?_
  ((repeat (first | refine q1 ?_ | refine q2 ?_ | refine q3 ?_ | refine q4 ?_ | refine q5 ?_ | refine q6 ?_ | refine q7 ?_ | refine q8 ?_ | refine q9 ?_ | refine qa ?_ | refine qb ?_ | refine qc ?_ | refine qd ?_ | refine qe (by decide) ?_ | refine qf ?_ | refine qg ?_ | ((first | apply aops_all | apply adraw_all); (simp (disch := first | exact List.all_nil | omega | (simp only [go_sem]; done) | (simp only [ln, List.length_map]; omega) | (repeat' first | assumption | exact Ext.refl _ | refine Ext.app ?_ _)) only [go_sem]; rfl)))); (try ((first | apply aops_until | apply adraw_until); (simp (disch := first | exact List.all_nil | omega | (simp only [go_sem]; done) | (simp only [ln, List.length_map]; omega) | (repeat' first | assumption | exact Ext.refl _ | refine Ext.app ?_ _)) only [go_sem]; rfl))))
  refine aops_call_to (first_c (l := [_, _]) (Ints.last (l := [_, _]) 2) (by simp)) ?_
  obtain ⟨e2, he2⟩ : ∃ e2, e2 = firstErr [taskErrL ll bend, if decide ((pp.length : Int) = (ll.length : Int)) = true then 0 else 10] := ⟨_, rfl⟩
  have gk3 := at_app (N := [AObj.cells true 1 [.int .i64 (taskErrL ll bend), .int .i64 (if decide ((pp.length : Int) = (ll.length : Int)) = true then 0 else 10)]]) gk
  have g03 := at_app (N := [AObj.cells true 1 [.int .i64 (taskErrL ll bend), .int .i64 (if decide ((pp.length : Int) = (ll.length : Int)) = true then 0 else 10)]]) g02
  have xG3 := xG2.app [AObj.cells true 1 [.int .i64 (taskErrL ll bend), .int .i64 (if decide ((pp.length : Int) = (ll.length : Int)) = true then 0 else 10)]]
  rw [← he2]
  generalize (G2 ++ [AObj.cells true 1 [.int .i64 (taskErrL ll bend), .int .i64 (if decide ((pp.length : Int) = (ll.length : Int)) = true then 0 else 10)]] : AHeap) = G3 at gk3 g03 xG3
  have spec : (e2 ≠ 0 ∧ priceErrA ll bend pp = e2) ∨ (e2 = 0 ∧ taskErrL ll bend = 0 ∧ pp.length = ll.length) := by
    by_cases h1 : taskErrL ll bend = 0
    · by_cases h2 : pp.length = ll.length
      · refine .inr ⟨by rw [he2]; unfold firstErr; simp [h1, h2], h1, h2⟩
      · have h2' : ¬ (pp.length : Int) = (ll.length : Int) := by omega
        have : e2 = 10 := by rw [he2]; unfold firstErr; simp [h1, h2']
        refine .inl ⟨by omega, ?_⟩
        unfold priceErrA pricesErrL
        rw [if_pos h1, if_neg h2, this]
    · have : e2 = taskErrL ll bend := by rw [he2]; unfold firstErr; simp [h1]
      refine .inl ⟨by rw [this]; exact h1, ?_⟩
      unfold priceErrA
      rw [if_neg h1, this]
  clear he2
  rcases spec with ⟨hne, hres⟩ | ⟨rfl, hok, hlen⟩
  · rw [hres, if_neg hne]
    ((repeat (first | refine q1 ?_ | refine q2 ?_ | refine q3 ?_ | refine q4 ?_ | refine q5 ?_ | refine q6 ?_ | refine q7 ?_ | refine q8 ?_ | refine q9 ?_ | refine qa ?_ | refine qb ?_ | refine qc ?_ | refine qd ?_ | refine qe (by decide) ?_ | refine qf ?_ | refine qg ?_ | ((first | apply aops_all | apply adraw_all); (simp (disch := first | exact List.all_nil | omega | (simp only [go_sem]; done) | (simp only [ln, List.length_map]; omega) | (repeat' first | assumption | exact Ext.refl _ | refine Ext.app ?_ _)) only [go_sem, dec_t hne]; rfl)))); (try ((first | apply aops_until | apply adraw_until); (simp (disch := first | exact List.all_nil | omega | (simp only [go_sem]; done) | (simp only [ln, List.length_map]; omega) | (repeat' first | assumption | exact Ext.refl _ | refine Ext.app ?_ _)) only [go_sem, dec_t hne]; rfl))))
    refine cond_t rfl ?_
    ((repeat (first | refine q1 ?_ | refine q2 ?_ | refine q3 ?_ | refine q4 ?_ | refine q5 ?_ | refine q6 ?_ | refine q7 ?_ | refine q8 ?_ | refine q9 ?_ | refine qa ?_ | refine qb ?_ | refine qc ?_ | refine qd ?_ | refine qe (by decide) ?_ | refine qf ?_ | refine qg ?_ | ((first | apply aops_all | apply adraw_all); (simp (disch := first | exact List.all_nil | omega | (simp only [go_sem]; done) | (simp only [ln, List.length_map]; omega) | (repeat' first | assumption | exact Ext.refl _ | refine Ext.app ?_ _)) only [go_sem]; rfl)))); (try ((first | apply aops_until | apply adraw_until); (simp (disch := first | exact List.all_nil | omega | (simp only [go_sem]; done) | (simp only [ln, List.length_map]; omega) | (repeat' first | assumption | exact Ext.refl _ | refine Ext.app ?_ _)) only [go_sem]; rfl))))
    exact fin_2 ⟨rfl, xG3⟩
  obtain ⟨hg, hbe⟩ := taskErr_ok hok
  obtain ⟨w1, w2, w3, w4, w5, w6⟩ := gridErr_ok hg
  have ea : priceErrA ll bend pp = if priceRows (ll.getD 0 []).length pp = 0 then (open Classical in if PricesOk ll bend pp then 0 else 19) else priceRows (ll.getD 0 []).length pp := by
    unfold priceErrA pricesErrL
    rw [if_pos hok, if_pos hlen]
  ((repeat (first | refine q1 ?_ | refine q2 ?_ | refine q3 ?_ | refine q4 ?_ | refine q5 ?_ | refine q6 ?_ | refine q7 ?_ | refine q8 ?_ | refine q9 ?_ | refine qa ?_ | refine qb ?_ | refine qc ?_ | refine qd ?_ | refine qe (by decide) ?_ | refine qf ?_ | refine qg ?_ | ((first | apply aops_all | apply adraw_all); (simp (disch := first | exact List.all_nil | omega | (simp only [go_sem]; done) | (simp only [ln, List.length_map]; omega) | (repeat' first | assumption | exact Ext.refl _ | refine Ext.app ?_ _)) only [go_sem]; rfl)))); (try ((first | apply aops_until | apply adraw_until); (simp (disch := first | exact List.all_nil | omega | (simp only [go_sem]; done) | (simp only [ln, List.length_map]; omega) | (repeat' first | assumption | exact Ext.refl _ | refine Ext.app ?_ _)) only [go_sem]; rfl))))
  refine cond_f rfl ?_
  have hP3 := hP.ext xG3
  have hL3 := hL.ext xG3
  ((repeat (first | refine q1 ?_ | refine q2 ?_ | refine q3 ?_ | refine q4 ?_ | refine q5 ?_ | refine q6 ?_ | refine q7 ?_ | refine q8 ?_ | refine q9 ?_ | refine qa ?_ | refine qb ?_ | refine qc ?_ | refine qd ?_ | refine qe (by decide) ?_ | refine qf ?_ | refine qg ?_ | ((first | apply aops_all | apply adraw_all); (simp (disch := first | exact List.all_nil | omega | (simp only [go_sem]; done) | (simp only [ln, List.length_map]; omega) | (repeat' first | assumption | exact Ext.refl _ | refine Ext.app ?_ _)) only [go_sem, hP3.len, hP3.idx, hP3.load]; rfl)))); (try ((first | apply aops_until | apply adraw_until); (simp (disch := first | exact List.all_nil | omega | (simp only [go_sem]; done) | (simp only [ln, List.length_map]; omega) | (repeat' first | assumption | exact Ext.refl _ | refine Ext.app ?_ _)) only [go_sem, hP3.len, hP3.idx, hP3.load]; rfl))))
  refine awp_loop_n [false, true, true, false, false, false, true, false, false, false, false, false, false, false, false, false, false, false, false, false, false, false, false, false, false, false, false, false, false, false, false, false, false, false, false, true, true, true, false, false, false, false, false, false, false, false, false, false, false, false, false, false, false, false, false, false, false, false, false, false, false, false, false, false, false, false, false, false, false, false, false, false, false, false, false, false, false, false, false, false, false, false, false, false, false, false, false, false, false, false, false, false, false, false, false, false, false, false, false, false, false] pp.length (fun i e H' => e = [junk, vp, .pointer (some ⟨H.length, 0, none⟩), junk, junk, junk, .pointer (some ⟨k, 0, none⟩), junk, junk, junk, junk, junk, junk, junk, junk, junk, junk, junk, junk, junk, junk, junk, junk, junk, junk, junk, junk, junk, junk, junk, junk, junk, junk, junk, junk, vp, .int .i64 pp.length, .int .i64 i, junk, junk, junk, junk, junk, junk, junk, junk, junk, junk, junk, junk, junk, junk, junk, junk, junk, junk, junk, junk, junk, junk, junk, junk, junk, junk, junk, junk, junk, junk, junk, junk, junk, junk, junk, junk, junk, junk, junk, junk, junk, junk, junk, junk, junk, junk, junk, junk, junk, junk, junk, junk, junk, junk, junk, junk, junk, junk, junk, junk, junk, junk, junk] ∧ Ext G3 H' ∧ priceRows (ll.getD 0 []).length (pp.drop i) = priceRows (ll.getD 0 []).length pp) ?_ ?_
  · exact ⟨by simp [forget], Ext.refl _, rfl⟩
  rintro i e H4 hi ⟨rfl, hx4, hv⟩
  have hP4 := hP3.ext hx4
  ((repeat (first | refine q1 ?_ | refine q2 ?_ | refine q3 ?_ | refine q4 ?_ | refine q5 ?_ | refine q6 ?_ | refine q7 ?_ | refine q8 ?_ | refine q9 ?_ | refine qa ?_ | refine qb ?_ | refine qc ?_ | refine qd ?_ | refine qe (by decide) ?_ | refine qf ?_ | refine qg ?_ | ((first | apply aops_all | apply adraw_all); (simp (disch := first | exact List.all_nil | omega | (simp only [go_sem]; done) | (simp only [ln, List.length_map]; omega) | (repeat' first | assumption | exact Ext.refl _ | refine Ext.app ?_ _)) only [go_sem]; rfl)))); (try ((first | apply aops_until | apply adraw_until); (simp (disch := first | exact List.all_nil | omega | (simp only [go_sem]; done) | (simp only [ln, List.length_map]; omega) | (repeat' first | assumption | exact Ext.refl _ | refine Ext.app ?_ _)) only [go_sem]; rfl))))
  refine cond_p rfl (fun hlt => ?_) (fun hge => ?_)
  · have hi' : i < pp.length := by omega
    have hrow := hP4.row hi'
    have hrl := hrp i hi'
    rw [priceRows_step hi'] at hv
    ((repeat (first | refine q1 ?_ | refine q2 ?_ | refine q3 ?_ | refine q4 ?_ | refine q5 ?_ | refine q6 ?_ | refine q7 ?_ | refine q8 ?_ | refine q9 ?_ | refine qa ?_ | refine qb ?_ | refine qc ?_ | refine qd ?_ | refine qe (by decide) ?_ | refine qf ?_ | refine qg ?_ | ((first | apply aops_all | apply adraw_all); (simp (disch := first | exact List.all_nil | omega | (simp only [go_sem]; done) | (simp only [ln, List.length_map]; omega) | (repeat' first | assumption | exact Ext.refl _ | refine Ext.app ?_ _)) only [go_sem, hP4.len, hP4.idx, hP4.load]; rfl)))); (try ((first | apply aops_until | apply adraw_until); (simp (disch := first | exact List.all_nil | omega | (simp only [go_sem]; done) | (simp only [ln, List.length_map]; omega) | (repeat' first | assumption | exact Ext.refl _ | refine Ext.app ?_ _)) only [go_sem, hP4.len, hP4.idx, hP4.load]; rfl))))
    refine aops_call_to (containsFunc_c hrow price1_c (by omega)) ?_
    ((repeat (first | refine q1 ?_ | refine q2 ?_ | refine q3 ?_ | refine q4 ?_ | refine q5 ?_ | refine q6 ?_ | refine q7 ?_ | refine q8 ?_ | refine q9 ?_ | refine qa ?_ | refine qb ?_ | refine qc ?_ | refine qd ?_ | refine qe (by decide) ?_ | refine qf ?_ | refine qg ?_ | ((first | apply aops_all | apply adraw_all); (simp (disch := first | exact List.all_nil | omega | (simp only [go_sem]; done) | (simp only [ln, List.length_map]; omega) | (repeat' first | assumption | exact Ext.refl _ | refine Ext.app ?_ _)) only [go_sem, hrow.len, hrow.idx, hrow.load, loadN_at (hx4.cell gk3)]; rfl)))); (try ((first | apply aops_until | apply adraw_until); (simp (disch := first | exact List.all_nil | omega | (simp only [go_sem]; done) | (simp only [ln, List.length_map]; omega) | (repeat' first | assumption | exact Ext.refl _ | refine Ext.app ?_ _)) only [go_sem, hrow.len, hrow.idx, hrow.load, loadN_at (hx4.cell gk3)]; rfl))))
    refine aops_call_to (columns_c (hL3.ext hx4) w1) ?_
    ((repeat (first | refine q1 ?_ | refine q2 ?_ | refine q3 ?_ | refine q4 ?_ | refine q5 ?_ | refine q6 ?_ | refine q7 ?_ | refine q8 ?_ | refine q9 ?_ | refine qa ?_ | refine qb ?_ | refine qc ?_ | refine qd ?_ | refine qe (by decide) ?_ | refine qf ?_ | refine qg ?_ | ((first | apply aops_all | apply adraw_all); (simp (disch := first | exact List.all_nil | omega | (simp only [go_sem]; done) | (simp only [ln, List.length_map]; omega) | (repeat' first | assumption | exact Ext.refl _ | refine Ext.app ?_ _)) only [go_sem]; rfl)))); (try ((first | apply aops_until | apply adraw_until); (simp (disch := first | exact List.all_nil | omega | (simp only [go_sem]; done) | (simp only [ln, List.length_map]; omega) | (repeat' first | assumption | exact Ext.refl _ | refine Ext.app ?_ _)) only [go_sem]; rfl))))
    refine aops_call_to (unless_c _ _) ?_
    ((repeat (first | refine q1 ?_ | refine q2 ?_ | refine q3 ?_ | refine q4 ?_ | refine q5 ?_ | refine q6 ?_ | refine q7 ?_ | refine q8 ?_ | refine q9 ?_ | refine qa ?_ | refine qb ?_ | refine qc ?_ | refine qd ?_ | refine qe (by decide) ?_ | refine qf ?_ | refine qg ?_ | ((first | apply aops_all | apply adraw_all); (simp (disch := first | exact List.all_nil | omega | (simp only [go_sem]; done) | (simp only [ln, List.length_map]; omega) | (repeat' first | assumption | exact Ext.refl _ | refine Ext.app ?_ _)) only [go_sem]; rfl)))); (try ((first | apply aops_until | apply adraw_until); (simp (disch := first | exact List.all_nil | omega | (simp only [go_sem]; done) | (simp only [ln, List.length_map]; omega) | (repeat' first | assumption | exact Ext.refl _ | refine Ext.app ?_ _)) only [go_sem]; rfl))))
    refine aops_call_to (unless_c _ _) ?_
    ((repeat (first | refine q1 ?_ | refine q2 ?_ | refine q3 ?_ | refine q4 ?_ | refine q5 ?_ | refine q6 ?_ | refine q7 ?_ | refine q8 ?_ | refine q9 ?_ | refine qa ?_ | refine qb ?_ | refine qc ?_ | refine qd ?_ | refine qe (by decide) ?_ | refine qf ?_ | refine qg ?_ | ((first | apply aops_all | apply adraw_all); (simp (disch := first | exact List.all_nil | omega | (simp only [go_sem]; done) | (simp only [ln, List.length_map]; omega) | (repeat' first | assumption | exact Ext.refl _ | refine Ext.app ?_ _)) only [go_sem]; rfl)))); (try ((first | apply aops_until | apply adraw_until); (simp (disch := first | exact List.all_nil | omega | (simp only [go_sem]; done) | (simp only [ln, List.length_map]; omega) | (repeat' first | assumption | exact Ext.refl _ | refine Ext.app ?_ _)) only [go_sem]; rfl))))
    refine aops_call_to (first_c (l := [_, _]) (Ints.last (l := [_, _]) 2) (by simp)) ?_
    rw [firstErr_priceRow]
    ((repeat (first | refine q1 ?_ | refine q2 ?_ | refine q3 ?_ | refine q4 ?_ | refine q5 ?_ | refine q6 ?_ | refine q7 ?_ | refine q8 ?_ | refine q9 ?_ | refine qa ?_ | refine qb ?_ | refine qc ?_ | refine qd ?_ | refine qe (by decide) ?_ | refine qf ?_ | refine qg ?_ | ((first | apply aops_all | apply adraw_all); (simp (disch := first | exact List.all_nil | omega | (simp only [go_sem]; done) | (simp only [ln, List.length_map]; omega) | (repeat' first | assumption | exact Ext.refl _ | refine Ext.app ?_ _)) only [go_sem]; rfl)))); (try ((first | apply aops_until | apply adraw_until); (simp (disch := first | exact List.all_nil | omega | (simp only [go_sem]; done) | (simp only [ln, List.length_map]; omega) | (repeat' first | assumption | exact Ext.refl _ | refine Ext.app ?_ _)) only [go_sem]; rfl))))
    refine cond_p rfl (fun hne => ?_) (fun heq => ?_)
    · rw [if_neg hne] at hv
      have e3 : priceErrA ll bend pp = priceRow (ll.getD 0 []).length (pp.getD i []) := by rw [ea, ← hv, if_neg hne]
      rw [e3, if_neg hne]
      ((repeat (first | refine q1 ?_ | refine q2 ?_ | refine q3 ?_ | refine q4 ?_ | refine q5 ?_ | refine q6 ?_ | refine q7 ?_ | refine q8 ?_ | refine q9 ?_ | refine qa ?_ | refine qb ?_ | refine qc ?_ | refine qd ?_ | refine qe (by decide) ?_ | refine qf ?_ | refine qg ?_ | ((first | apply aops_all | apply adraw_all); (simp (disch := first | exact List.all_nil | omega | (simp only [go_sem]; done) | (simp only [ln, List.length_map]; omega) | (repeat' first | assumption | exact Ext.refl _ | refine Ext.app ?_ _)) only [go_sem]; rfl)))); (try ((first | apply aops_until | apply adraw_until); (simp (disch := first | exact List.all_nil | omega | (simp only [go_sem]; done) | (simp only [ln, List.length_map]; omega) | (repeat' first | assumption | exact Ext.refl _ | refine Ext.app ?_ _)) only [go_sem]; rfl))))
      exact fin_2 ⟨rfl, (xG3.trans hx4).app _⟩
    · rw [if_pos (Decidable.not_not.1 heq)] at hv
      ((repeat (first | refine q1 ?_ | refine q2 ?_ | refine q3 ?_ | refine q4 ?_ | refine q5 ?_ | refine q6 ?_ | refine q7 ?_ | refine q8 ?_ | refine q9 ?_ | refine qa ?_ | refine qb ?_ | refine qc ?_ | refine qd ?_ | refine qe (by decide) ?_ | refine qf ?_ | refine qg ?_ | ((first | apply aops_all | apply adraw_all); (simp (disch := first | exact List.all_nil | omega | (simp only [go_sem]; done) | (simp only [ln, List.length_map]; omega) | (repeat' first | assumption | exact Ext.refl _ | refine Ext.app ?_ _)) only [go_sem]; rfl)))); (try ((first | apply aops_until | apply adraw_until); (simp (disch := first | exact List.all_nil | omega | (simp only [go_sem]; done) | (simp only [ln, List.length_map]; omega) | (repeat' first | assumption | exact Ext.refl _ | refine Ext.app ?_ _)) only [go_sem]; rfl))))
      exact ⟨by omega, by simp [forget], hx4.app _, hv⟩
  rw [priceRows_end (by omega)] at hv
  have hrows := hv.symm
  rw [hrows, if_pos rfl] at ea
  have hall := priceRows_all hrows
  have xG4 := xG3.trans hx4
  have hL4 := hL3.ext hx4
  have gk4 := hx4.cell gk3
  have g04 := hx4.cell g03
  have bad : ¬ PricesOk ll bend pp → priceErrA ll bend pp = 19 := fun h => by rw [ea, if_neg h]
  have prow : ∀ row, row < pp.length → (pp.getD row []).length = (ll.getD 0 []).length := fun row h => (priceRow_ok (hall row h)).1
  have pval : ∀ row, row < pp.length → ∀ c : Nat, -1000000 ≤ (pp.getD row []).getD c 0 ∧ (pp.getD row []).getD c 0 ≤ 1000000 := fun row h => (priceRow_ok (hall row h)).2
  clear hv
  ((repeat (first | refine q1 ?_ | refine q2 ?_ | refine q3 ?_ | refine q4 ?_ | refine q5 ?_ | refine q6 ?_ | refine q7 ?_ | refine q8 ?_ | refine q9 ?_ | refine qa ?_ | refine qb ?_ | refine qc ?_ | refine qd ?_ | refine qe (by decide) ?_ | refine qf ?_ | refine qg ?_ | ((first | apply aops_all | apply adraw_all); (simp (disch := first | exact List.all_nil | omega | (simp only [go_sem]; done) | (simp only [ln, List.length_map]; omega) | (repeat' first | assumption | exact Ext.refl _ | refine Ext.app ?_ _)) only [go_sem, hP4.len, hP4.idx, hP4.load]; rfl)))); (try ((first | apply aops_until | apply adraw_until); (simp (disch := first | exact List.all_nil | omega | (simp only [go_sem]; done) | (simp only [ln, List.length_map]; omega) | (repeat' first | assumption | exact Ext.refl _ | refine Ext.app ?_ _)) only [go_sem, hP4.len, hP4.idx, hP4.load]; rfl))))
  refine awp_loop_n [false, true, true, false, false, false, true, false, false, false, false, false, false, false, false, false, false, false, false, false, false, false, false, false, false, false, false, false, false, false, false, false, false, false, false, false, false, false, false, false, false, false, false, false, false, false, false, false, false, false, false, false, false, false, false, false, false, false, true, true, true, false, false, false, false, false, false, false, false, false, false, false, false, false, false, false, false, false, false, false, false, false, false, false, false, false, false, false, false, false, false, false, false, false, false, false, false, false, false, false, false] pp.length (fun row e H' => e = [junk, vp, .pointer (some ⟨H.length, 0, none⟩), junk, junk, junk, .pointer (some ⟨k, 0, none⟩), junk, junk, junk, junk, junk, junk, junk, junk, junk, junk, junk, junk, junk, junk, junk, junk, junk, junk, junk, junk, junk, junk, junk, junk, junk, junk, junk, junk, junk, junk, junk, junk, junk, junk, junk, junk, junk, junk, junk, junk, junk, junk, junk, junk, junk, junk, junk, junk, junk, junk, junk, vp, .int .i64 pp.length, .int .i64 row, junk, junk, junk, junk, junk, junk, junk, junk, junk, junk, junk, junk, junk, junk, junk, junk, junk, junk, junk, junk, junk, junk, junk, junk, junk, junk, junk, junk, junk, junk, junk, junk, junk, junk, junk, junk, junk, junk, junk, junk] ∧ H' = H4 ∧
    ∀ r, r < row → ∀ c, c < (ll.getD 0 []).length → (pp.getD r []).getD c 0 ≤ mostL ll bend pp r c) ?_ ?_
  · exact ⟨by simp [forget], rfl, by omega⟩
  rintro row e H5 hrowi ⟨rfl, rfl, hbef⟩
  ((repeat (first | refine q1 ?_ | refine q2 ?_ | refine q3 ?_ | refine q4 ?_ | refine q5 ?_ | refine q6 ?_ | refine q7 ?_ | refine q8 ?_ | refine q9 ?_ | refine qa ?_ | refine qb ?_ | refine qc ?_ | refine qd ?_ | refine qe (by decide) ?_ | refine qf ?_ | refine qg ?_ | ((first | apply aops_all | apply adraw_all); (simp (disch := first | exact List.all_nil | omega | (simp only [go_sem]; done) | (simp only [ln, List.length_map]; omega) | (repeat' first | assumption | exact Ext.refl _ | refine Ext.app ?_ _)) only [go_sem]; rfl)))); (try ((first | apply aops_until | apply adraw_until); (simp (disch := first | exact List.all_nil | omega | (simp only [go_sem]; done) | (simp only [ln, List.length_map]; omega) | (repeat' first | assumption | exact Ext.refl _ | refine Ext.app ?_ _)) only [go_sem]; rfl))))
  refine cond_p rfl (fun hlt2 => ?_) (fun hge2 => ?_)
  rotate_left 1
  · obtain rfl : row = pp.length := by omega
    have hpok : PricesOk ll bend pp := hbef
    have e3 : priceErrA ll bend pp = 0 := by rw [ea, if_pos hpok]
    rw [e3, if_pos rfl]
    have c1 : ((ll.length : Int) - 1) = ((pp.length - 1 : Nat) : Int) := by omega
    have hrl := hP4.row (k := pp.length - 1) (by omega)
    have hrll := prow (pp.length - 1) (by omega)
    ((repeat (first | refine q1 ?_ | refine q2 ?_ | refine q3 ?_ | refine q4 ?_ | refine q5 ?_ | refine q6 ?_ | refine q7 ?_ | refine q8 ?_ | refine q9 ?_ | refine qa ?_ | refine qb ?_ | refine qc ?_ | refine qd ?_ | refine qe (by decide) ?_ | refine qf ?_ | refine qg ?_ | ((first | apply aops_all | apply adraw_all); (simp (disch := first | exact List.all_nil | omega | (simp only [go_sem]; done) | (simp only [ln, List.length_map]; omega) | (repeat' first | assumption | exact Ext.refl _ | refine Ext.app ?_ _)) only [go_sem, loadN_at gk4]; rfl)))); (try ((first | apply aops_until | apply adraw_until); (simp (disch := first | exact List.all_nil | omega | (simp only [go_sem]; done) | (simp only [ln, List.length_map]; omega) | (repeat' first | assumption | exact Ext.refl _ | refine Ext.app ?_ _)) only [go_sem, loadN_at gk4]; rfl))))
    refine aops_call_to (last_c hL4 (by omega)) ?_
    rw [c1]
    ((repeat (first | refine q1 ?_ | refine q2 ?_ | refine q3 ?_ | refine q4 ?_ | refine q5 ?_ | refine q6 ?_ | refine q7 ?_ | refine q8 ?_ | refine q9 ?_ | refine qa ?_ | refine qb ?_ | refine qc ?_ | refine qd ?_ | refine qe (by decide) ?_ | refine qf ?_ | refine qg ?_ | ((first | apply aops_all | apply adraw_all); (simp (disch := first | exact List.all_nil | omega | (simp only [go_sem]; done) | (simp only [ln, List.length_map]; omega) | (repeat' first | assumption | exact Ext.refl _ | refine Ext.app ?_ _)) only [go_sem, hP4.len, hP4.idx, hP4.load]; rfl)))); (try ((first | apply aops_until | apply adraw_until); (simp (disch := first | exact List.all_nil | omega | (simp only [go_sem]; done) | (simp only [ln, List.length_map]; omega) | (repeat' first | assumption | exact Ext.refl _ | refine Ext.app ?_ _)) only [go_sem, hP4.len, hP4.idx, hP4.load]; rfl))))
    refine aops_call_to (min_c hrl (by omega) (by omega)) ?_
    ((repeat (first | refine q1 ?_ | refine q2 ?_ | refine q3 ?_ | refine q4 ?_ | refine q5 ?_ | refine q6 ?_ | refine q7 ?_ | refine q8 ?_ | refine q9 ?_ | refine qa ?_ | refine qb ?_ | refine qc ?_ | refine qd ?_ | refine qe (by decide) ?_ | refine qf ?_ | refine qg ?_ | ((first | apply aops_all | apply adraw_all); (simp (disch := first | exact List.all_nil | omega | (simp only [go_sem]; done) | (simp only [ln, List.length_map]; omega) | (repeat' first | assumption | exact Ext.refl _ | refine Ext.app ?_ _)) only [go_sem]; rfl)))); (try ((first | apply aops_until | apply adraw_until); (simp (disch := first | exact List.all_nil | omega | (simp only [go_sem]; done) | (simp only [ln, List.length_map]; omega) | (repeat' first | assumption | exact Ext.refl _ | refine Ext.app ?_ _)) only [go_sem]; rfl))))
    exact fin_2 ⟨rfl, xG4⟩
  have hr' : row < pp.length := by omega
  have hrow := hP4.row hr'
  have hwid := prow row hr'
  ((repeat (first | refine q1 ?_ | refine q2 ?_ | refine q3 ?_ | refine q4 ?_ | refine q5 ?_ | refine q6 ?_ | refine q7 ?_ | refine q8 ?_ | refine q9 ?_ | refine qa ?_ | refine qb ?_ | refine qc ?_ | refine qd ?_ | refine qe (by decide) ?_ | refine qf ?_ | refine qg ?_ | ((first | apply aops_all | apply adraw_all); (simp (disch := first | exact List.all_nil | omega | (simp only [go_sem]; done) | (simp only [ln, List.length_map]; omega) | (repeat' first | assumption | exact Ext.refl _ | refine Ext.app ?_ _)) only [go_sem, hP4.len, hP4.idx, hP4.load, hrow.len, hrow.idx, hrow.load]; rfl)))); (try ((first | apply aops_until | apply adraw_until); (simp (disch := first | exact List.all_nil | omega | (simp only [go_sem]; done) | (simp only [ln, List.length_map]; omega) | (repeat' first | assumption | exact Ext.refl _ | refine Ext.app ?_ _)) only [go_sem, hP4.len, hP4.idx, hP4.load, hrow.len, hrow.idx, hrow.load]; rfl))))
  refine awp_loop_n [false, true, true, false, false, false, true, false, false, false, false, false, true, false, false, false, false, false, false, false, false, false, false, false, false, false, false, false, false, false, false, false, false, false, false, false, false, false, false, false, false, false, false, false, false, false, false, false, false, false, false, false, false, false, false, false, false, false, true, true, true, false, false, false, false, true, true, true, false, false, false, false, false, false, false, false, false, false, false, false, false, false, false, false, false, false, false, false, false, false, false, false, false, false, false, false, false, false, false, false, false] (ll.getD 0 []).length (fun c e H' => e = [junk, vp, .pointer (some ⟨H.length, 0, none⟩), junk, junk, junk, .pointer (some ⟨k, 0, none⟩), junk, junk, junk, junk, junk, .int .i64 row, junk, junk, junk, junk, junk, junk, junk, junk, junk, junk, junk, junk, junk, junk, junk, junk, junk, junk, junk, junk, junk, junk, junk, junk, junk, junk, junk, junk, junk, junk, junk, junk, junk, junk, junk, junk, junk, junk, junk, junk, junk, junk, junk, junk, junk, vp, .int .i64 pp.length, .int .i64 row, junk, junk, junk, junk, ws.getD row undef, .int .i64 ((pp.getD row []).length : Nat), .int .i64 c, junk, junk, junk, junk, junk, junk, junk, junk, junk, junk, junk, junk, junk, junk, junk, junk, junk, junk, junk, junk, junk, junk, junk, junk, junk, junk, junk, junk, junk, junk, junk, junk, junk] ∧ H' = H5 ∧
    ∀ c', c' < c → (pp.getD row []).getD c' 0 ≤ mostL ll bend pp row c') ?_ ?_
  · exact ⟨by simp [forget], rfl, by omega⟩
  rintro c e H6 hci ⟨rfl, rfl, hbef2⟩
  ((repeat (first | refine q1 ?_ | refine q2 ?_ | refine q3 ?_ | refine q4 ?_ | refine q5 ?_ | refine q6 ?_ | refine q7 ?_ | refine q8 ?_ | refine q9 ?_ | refine qa ?_ | refine qb ?_ | refine qc ?_ | refine qd ?_ | refine qe (by decide) ?_ | refine qf ?_ | refine qg ?_ | ((first | apply aops_all | apply adraw_all); (simp (disch := first | exact List.all_nil | omega | (simp only [go_sem]; done) | (simp only [ln, List.length_map]; omega) | (repeat' first | assumption | exact Ext.refl _ | refine Ext.app ?_ _)) only [go_sem]; rfl)))); (try ((first | apply aops_until | apply adraw_until); (simp (disch := first | exact List.all_nil | omega | (simp only [go_sem]; done) | (simp only [ln, List.length_map]; omega) | (repeat' first | assumption | exact Ext.refl _ | refine Ext.app ?_ _)) only [go_sem]; rfl))))
  refine cond_p rfl (fun hlt3 => ?_) (fun hge3 => ?_)
  rotate_left 1
  · ((repeat (first | refine q1 ?_ | refine q2 ?_ | refine q3 ?_ | refine q4 ?_ | refine q5 ?_ | refine q6 ?_ | refine q7 ?_ | refine q8 ?_ | refine q9 ?_ | refine qa ?_ | refine qb ?_ | refine qc ?_ | refine qd ?_ | refine qe (by decide) ?_ | refine qf ?_ | refine qg ?_ | ((first | apply aops_all | apply adraw_all); (simp (disch := first | exact List.all_nil | omega | (simp only [go_sem]; done) | (simp only [ln, List.length_map]; omega) | (repeat' first | assumption | exact Ext.refl _ | refine Ext.app ?_ _)) only [go_sem]; rfl)))); (try ((first | apply aops_until | apply adraw_until); (simp (disch := first | exact List.all_nil | omega | (simp only [go_sem]; done) | (simp only [ln, List.length_map]; omega) | (repeat' first | assumption | exact Ext.refl _ | refine Ext.app ?_ _)) only [go_sem]; rfl))))
    refine ⟨by omega, by simp [forget], rfl, fun r hr c' hc' => ?_⟩
    by_cases hrr : r = row
    · subst hrr; exact hbef2 c' (by omega)
    · exact hbef r (by omega) c' hc'
  have hc' : c < (ll.getD 0 []).length := by omega
  have hr0 := hL4.row w1
  have step : (pp.getD row []).getD c 0 ≤ mostL ll bend pp row c → ∀ c', c' < c + 1 → (pp.getD row []).getD c' 0 ≤ mostL ll bend pp row c' := fun h c' hc' => by
    by_cases hcc : c' = c
    · subst hcc; exact h
    · exact hbef2 c' (by omega)
  ((repeat (first | refine q1 ?_ | refine q2 ?_ | refine q3 ?_ | refine q4 ?_ | refine q5 ?_ | refine q6 ?_ | refine q7 ?_ | refine q8 ?_ | refine q9 ?_ | refine qa ?_ | refine qb ?_ | refine qc ?_ | refine qd ?_ | refine qe (by decide) ?_ | refine qf ?_ | refine qg ?_ | ((first | apply aops_all | apply adraw_all); (simp (disch := first | exact List.all_nil | omega | (simp only [go_sem]; done) | (simp only [ln, List.length_map]; omega) | (repeat' first | assumption | exact Ext.refl _ | refine Ext.app ?_ _)) only [go_sem, hrow.len, hrow.idx, hrow.load, hL4.len, hL4.idx, hL4.load, hr0.len, hr0.idx, hr0.load, load_at g04, show (0 : Int).toNat = 0 from rfl]; rfl)))); (try ((first | apply aops_until | apply adraw_until); (simp (disch := first | exact List.all_nil | omega | (simp only [go_sem]; done) | (simp only [ln, List.length_map]; omega) | (repeat' first | assumption | exact Ext.refl _ | refine Ext.app ?_ _)) only [go_sem, hrow.len, hrow.idx, hrow.load, hL4.len, hL4.idx, hL4.load, hr0.len, hr0.idx, hr0.load, load_at g04, show (0 : Int).toNat = 0 from rfl]; rfl))))
  by_cases hz : row = 0
  · have em : mostL ll bend pp row c = (ll.getD 0 []).getD c 0 := if_pos hz
    refine cond_f (by simp (disch := first | exact List.all_nil | omega | (simp only [go_sem]; done) | (simp only [ln, List.length_map]; omega) | (repeat' first | assumption | exact Ext.refl _ | refine Ext.app ?_ _)) only [go_sem, dec_f (show ¬ 0 < (row : Int) by omega)]) ?_
    ((repeat (first | refine q1 ?_ | refine q2 ?_ | refine q3 ?_ | refine q4 ?_ | refine q5 ?_ | refine q6 ?_ | refine q7 ?_ | refine q8 ?_ | refine q9 ?_ | refine qa ?_ | refine qb ?_ | refine qc ?_ | refine qd ?_ | refine qe (by decide) ?_ | refine qf ?_ | refine qg ?_ | ((first | apply aops_all | apply adraw_all); (simp (disch := first | exact List.all_nil | omega | (simp only [go_sem]; done) | (simp only [ln, List.length_map]; omega) | (repeat' first | assumption | exact Ext.refl _ | refine Ext.app ?_ _)) only [go_sem]; rfl)))); (try ((first | apply aops_until | apply adraw_until); (simp (disch := first | exact List.all_nil | omega | (simp only [go_sem]; done) | (simp only [ln, List.length_map]; omega) | (repeat' first | assumption | exact Ext.refl _ | refine Ext.app ?_ _)) only [go_sem]; rfl))))
    refine cond_p rfl (fun hgt => ?_) (fun hle => ?_)
    · rw [bad (fun h => by have := h row hr' c hc'; omega), if_neg (by decide)]
      ((repeat (first | refine q1 ?_ | refine q2 ?_ | refine q3 ?_ | refine q4 ?_ | refine q5 ?_ | refine q6 ?_ | refine q7 ?_ | refine q8 ?_ | refine q9 ?_ | refine qa ?_ | refine qb ?_ | refine qc ?_ | refine qd ?_ | refine qe (by decide) ?_ | refine qf ?_ | refine qg ?_ | ((first | apply aops_all | apply adraw_all); (simp (disch := first | exact List.all_nil | omega | (simp only [go_sem]; done) | (simp only [ln, List.length_map]; omega) | (repeat' first | assumption | exact Ext.refl _ | refine Ext.app ?_ _)) only [go_sem]; rfl)))); (try ((first | apply aops_until | apply adraw_until); (simp (disch := first | exact List.all_nil | omega | (simp only [go_sem]; done) | (simp only [ln, List.length_map]; omega) | (repeat' first | assumption | exact Ext.refl _ | refine Ext.app ?_ _)) only [go_sem]; rfl))))
      exact fin_2 ⟨rfl, xG4⟩
    · ((repeat (first | refine q1 ?_ | refine q2 ?_ | refine q3 ?_ | refine q4 ?_ | refine q5 ?_ | refine q6 ?_ | refine q7 ?_ | refine q8 ?_ | refine q9 ?_ | refine qa ?_ | refine qb ?_ | refine qc ?_ | refine qd ?_ | refine qe (by decide) ?_ | refine qf ?_ | refine qg ?_ | ((first | apply aops_all | apply adraw_all); (simp (disch := first | exact List.all_nil | omega | (simp only [go_sem]; done) | (simp only [ln, List.length_map]; omega) | (repeat' first | assumption | exact Ext.refl _ | refine Ext.app ?_ _)) only [go_sem]; rfl)))); (try ((first | apply aops_until | apply adraw_until); (simp (disch := first | exact List.all_nil | omega | (simp only [go_sem]; done) | (simp only [ln, List.length_map]; omega) | (repeat' first | assumption | exact Ext.refl _ | refine Ext.app ?_ _)) only [go_sem]; rfl))))
      exact ⟨by omega, by simp [forget], rfl, step (by omega)⟩
  · have em : mostL ll bend pp row c = ceilL ll bend (pp.getD (row - 1) []) row c := if_neg hz
    have c1 : ((row : Int) - 1) = ((row - 1 : Nat) : Int) := by omega
    have hprev := hP4.row (k := row - 1) (by omega)
    refine cond_t (by simp (disch := first | exact List.all_nil | omega | (simp only [go_sem]; done) | (simp only [ln, List.length_map]; omega) | (repeat' first | assumption | exact Ext.refl _ | refine Ext.app ?_ _)) only [go_sem, dec_t (show 0 < (row : Int) by omega)]) ?_
    ((repeat (first | refine q1 ?_ | refine q2 ?_ | refine q3 ?_ | refine q4 ?_ | refine q5 ?_ | refine q6 ?_ | refine q7 ?_ | refine q8 ?_ | refine q9 ?_ | refine qa ?_ | refine qb ?_ | refine qc ?_ | refine qd ?_ | refine qe (by decide) ?_ | refine qf ?_ | refine qg ?_ | ((first | apply aops_all | apply adraw_all); (simp (disch := first | exact List.all_nil | omega | (simp only [go_sem]; done) | (simp only [ln, List.length_map]; omega) | (repeat' first | assumption | exact Ext.refl _ | refine Ext.app ?_ _)) only [go_sem, hP4.len, hP4.idx, hP4.load, loadN_at gk4, c1]; rfl)))); (try ((first | apply aops_until | apply adraw_until); (simp (disch := first | exact List.all_nil | omega | (simp only [go_sem]; done) | (simp only [ln, List.length_map]; omega) | (repeat' first | assumption | exact Ext.refl _ | refine Ext.app ?_ _)) only [go_sem, hP4.len, hP4.idx, hP4.load, loadN_at gk4, c1]; rfl))))
    refine adraw_call (N := []) (firstD (ceiling_c hL4 hprev hg hbe (prow _ (by omega)) (pval _ (by omega)) (by omega) hc')) ?_
    rw [List.append_nil]
    ((repeat (first | refine q1 ?_ | refine q2 ?_ | refine q3 ?_ | refine q4 ?_ | refine q5 ?_ | refine q6 ?_ | refine q7 ?_ | refine q8 ?_ | refine q9 ?_ | refine qa ?_ | refine qb ?_ | refine qc ?_ | refine qd ?_ | refine qe (by decide) ?_ | refine qf ?_ | refine qg ?_ | ((first | apply aops_all | apply adraw_all); (simp (disch := first | exact List.all_nil | omega | (simp only [go_sem]; done) | (simp only [ln, List.length_map]; omega) | (repeat' first | assumption | exact Ext.refl _ | refine Ext.app ?_ _)) only [go_sem]; rfl)))); (try ((first | apply aops_until | apply adraw_until); (simp (disch := first | exact List.all_nil | omega | (simp only [go_sem]; done) | (simp only [ln, List.length_map]; omega) | (repeat' first | assumption | exact Ext.refl _ | refine Ext.app ?_ _)) only [go_sem]; rfl))))
    refine cond_p rfl (fun hgt => ?_) (fun hle => ?_)
    · rw [bad (fun h => by have := h row hr' c hc'; omega), if_neg (by decide)]
      ((repeat (first | refine q1 ?_ | refine q2 ?_ | refine q3 ?_ | refine q4 ?_ | refine q5 ?_ | refine q6 ?_ | refine q7 ?_ | refine q8 ?_ | refine q9 ?_ | refine qa ?_ | refine qb ?_ | refine qc ?_ | refine qd ?_ | refine qe (by decide) ?_ | refine qf ?_ | refine qg ?_ | ((first | apply aops_all | apply adraw_all); (simp (disch := first | exact List.all_nil | omega | (simp only [go_sem]; done) | (simp only [ln, List.length_map]; omega) | (repeat' first | assumption | exact Ext.refl _ | refine Ext.app ?_ _)) only [go_sem]; rfl)))); (try ((first | apply aops_until | apply adraw_until); (simp (disch := first | exact List.all_nil | omega | (simp only [go_sem]; done) | (simp only [ln, List.length_map]; omega) | (repeat' first | assumption | exact Ext.refl _ | refine Ext.app ?_ _)) only [go_sem]; rfl))))
      exact fin_2 ⟨rfl, xG4⟩
    · ((repeat (first | refine q1 ?_ | refine q2 ?_ | refine q3 ?_ | refine q4 ?_ | refine q5 ?_ | refine q6 ?_ | refine q7 ?_ | refine q8 ?_ | refine q9 ?_ | refine qa ?_ | refine qb ?_ | refine qc ?_ | refine qd ?_ | refine qe (by decide) ?_ | refine qf ?_ | refine qg ?_ | ((first | apply aops_all | apply adraw_all); (simp (disch := first | exact List.all_nil | omega | (simp only [go_sem]; done) | (simp only [ln, List.length_map]; omega) | (repeat' first | assumption | exact Ext.refl _ | refine Ext.app ?_ _)) only [go_sem]; rfl)))); (try ((first | apply aops_until | apply adraw_until); (simp (disch := first | exact List.all_nil | omega | (simp only [go_sem]; done) | (simp only [ln, List.length_map]; omega) | (repeat' first | assumption | exact Ext.refl _ | refine Ext.app ?_ _)) only [go_sem]; rfl))))
      exact ⟨by omega, by simp [forget], rfl, step (by omega)⟩
end
end Go.Lq

namespace Go.Lq
open Go
open Go.Proofs
section
variable {H : AHeap}
set_option maxHeartbeats 2000000 in
set_option maxRecDepth 100000 in
theorem refPricesErr_c {ll pp : List (List Int)} {vs ws : List Value} {v vp : Value} {bend : Int} (hL : Lists H ll vs v) (hP : Lists H pp ws vp) (hok : taskErrL ll bend = 0)
    (hbp : pp.length ≤ 1000000) (hrp : ∀ i, i < pp.length → (pp.getD i []).length ≤ 1000000) :
    ACall Go.Proofs.Tryd.prog 58 [.agg ⟨[v, .int .i64 bend]⟩, vp] H fun v1 H1 => v1 = .int .i64 (pricesErrL ll bend pp) ∧ H1 = H := by
  refine ACall.drop (.int _ _) ?_
  obtain ⟨hg, hbe⟩ := taskErr_ok hok
  obtain ⟨w1, w2, w3, w4, w5, w6⟩ := gridErr_ok hg
  (refine a58 ?_; simp only [n58, List.replicate, List.length_cons, List.length_nil, List.cons_append, List.nil_append])
  ((repeat (first | refine q1 ?_ | refine q2 ?_ | refine q3 ?_ | refine q4 ?_ | refine q5 ?_ | refine q6 ?_ | refine q7 ?_ | refine q8 ?_ | refine q9 ?_ | refine qa ?_ | refine qb ?_ | refine qc ?_ | refine qd ?_ | refine qe (by decide) ?_ | refine qf ?_ | refine qg ?_ | ((first | apply aops_all | apply adraw_all); (simp (disch := first | exact List.all_nil | omega | (simp only [go_sem]; done) | (simp only [ln, List.length_map]; omega) | (repeat' first | assumption | exact Ext.refl _ | refine Ext.app ?_ _)) only [go_sem, hL.box2]; rfl)))); (try ((first | apply aops_until | apply adraw_until); (simp (disch := first | exact List.all_nil | omega | (simp only [go_sem]; done) | (simp only [ln, List.length_map]; omega) | (repeat' first | assumption | exact Ext.refl _ | refine Ext.app ?_ _)) only [go_sem, hL.box2]; rfl))))
  have g0 : (H ++ [AObj.cells true 0 [v, .int .i64 bend]])[H.length]? = some (.cells true 0 [v, .int .i64 bend]) := at_new
  have xG : Ext H (H ++ [AObj.cells true 0 [v, .int .i64 bend]]) := (Ext.refl H).app _
  have hL2 := hL.ext xG
  have hP2 := hP.ext xG
  generalize (H ++ [AObj.cells true 0 [v, .int .i64 bend]] : AHeap) = G at g0 xG hL2 hP2
  have hr0 := hL2.row w1
  have z0 : (0 : Int).toNat = 0 := rfl
  obtain ⟨w, hw⟩ : ∃ w, w = (ll.getD 0 []).length := ⟨_, rfl⟩
  ((repeat (first | refine q1 ?_ | refine q2 ?_ | refine q3 ?_ | refine q4 ?_ | refine q5 ?_ | refine q6 ?_ | refine q7 ?_ | refine q8 ?_ | refine q9 ?_ | refine qa ?_ | refine qb ?_ | refine qc ?_ | refine qd ?_ | refine qe (by decide) ?_ | refine qf ?_ | refine qg ?_ | ((first | apply aops_all | apply adraw_all); (simp (disch := first | exact List.all_nil | omega | (simp only [go_sem]; done) | (simp only [ln, List.length_map]; omega) | (repeat' first | assumption | exact Ext.refl _ | refine Ext.app ?_ _)) only [go_sem, hL2.len, hL2.idx, hL2.load, hr0.len, hr0.idx, hr0.load, hP2.len, hP2.idx, hP2.load, load_at g0, z0, ← hw]; rfl)))); (try ((first | apply aops_until | apply adraw_until); (simp (disch := first | exact List.all_nil | omega | (simp only [go_sem]; done) | (simp only [ln, List.length_map]; omega) | (repeat' first | assumption | exact Ext.refl _ | refine Ext.app ?_ _)) only [go_sem, hL2.len, hL2.idx, hL2.load, hr0.len, hr0.idx, hr0.load, hP2.len, hP2.idx, hP2.load, load_at g0, z0, ← hw]; rfl))))
  refine cond_p rfl (fun hne => ?_) (fun heq => ?_)
  · ((repeat (first | refine q1 ?_ | refine q2 ?_ | refine q3 ?_ | refine q4 ?_ | refine q5 ?_ | refine q6 ?_ | refine q7 ?_ | refine q8 ?_ | refine q9 ?_ | refine qa ?_ | refine qb ?_ | refine qc ?_ | refine qd ?_ | refine qe (by decide) ?_ | refine qf ?_ | refine qg ?_ | ((first | apply aops_all | apply adraw_all); (simp (disch := first | exact List.all_nil | omega | (simp only [go_sem]; done) | (simp only [ln, List.length_map]; omega) | (repeat' first | assumption | exact Ext.refl _ | refine Ext.app ?_ _)) only [go_sem]; rfl)))); (try ((first | apply aops_until | apply adraw_until); (simp (disch := first | exact List.all_nil | omega | (simp only [go_sem]; done) | (simp only [ln, List.length_map]; omega) | (repeat' first | assumption | exact Ext.refl _ | refine Ext.app ?_ _)) only [go_sem]; rfl))))
    exact fin_1 ⟨by unfold pricesErrL; rw [if_neg (by omega)]; rfl, xG⟩
  have hlen : pp.length = ll.length := by omega
  have ea : pricesErrL ll bend pp = if priceRows (ll.getD 0 []).length pp = 0 then (open Classical in if PricesOk ll bend pp then 0 else 19) else priceRows (ll.getD 0 []).length pp := by
    unfold pricesErrL
    rw [if_pos hlen]
  rw [← hw] at ea
  ((repeat (first | refine q1 ?_ | refine q2 ?_ | refine q3 ?_ | refine q4 ?_ | refine q5 ?_ | refine q6 ?_ | refine q7 ?_ | refine q8 ?_ | refine q9 ?_ | refine qa ?_ | refine qb ?_ | refine qc ?_ | refine qd ?_ | refine qe (by decide) ?_ | refine qf ?_ | refine qg ?_ | ((first | apply aops_all | apply adraw_all); (simp (disch := first | exact List.all_nil | omega | (simp only [go_sem]; done) | (simp only [ln, List.length_map]; omega) | (repeat' first | assumption | exact Ext.refl _ | refine Ext.app ?_ _)) only [go_sem]; rfl)))); (try ((first | apply aops_until | apply adraw_until); (simp (disch := first | exact List.all_nil | omega | (simp only [go_sem]; done) | (simp only [ln, List.length_map]; omega) | (repeat' first | assumption | exact Ext.refl _ | refine Ext.app ?_ _)) only [go_sem]; rfl))))
  refine awp_loop_n [false, true, true, false, false, true, true, false, false, false, false, false, false, false, false, false, false, false, false, false, false, false, false, false, false, false, false, false, false, false, false, false, false, false, false, false, false, false, false, false, false, false, false, false, false, false, false, false, false, false, false, false, false, false, false, false, false, false, false, false, false, false, false, false, false, false, false, false, false, false, false, false, false, false, false, false, false, false, false, false, false, false, false, false, false, false, false, false, false, false, false, false, false, false, false, false, false, false, false, false, false, false, false, false, false, false, false, false, false, false, false, false, false, false, false, false, false, false, false, false, false, false, false, false] pp.length (fun i e H' => e = [junk, vp, .pointer (some ⟨H.length, 0, none⟩), junk, junk, .int .i64 w, .int .i64 i, junk, junk, junk, junk, junk, junk, junk, junk, junk, junk, junk, junk, junk, junk, junk, junk, junk, junk, junk, junk, junk, junk, junk, junk, junk, junk, junk, junk, junk, junk, junk, junk, junk, junk, junk, junk, junk, junk, junk, junk, junk, junk, junk, junk, junk, junk, junk, junk, junk, junk, junk, junk, junk, junk, junk, junk, junk, junk, junk, junk, junk, junk, junk, junk, junk, junk, junk, junk, junk, junk, junk, junk, junk, junk, junk, junk, junk, junk, junk, junk, junk, junk, junk, junk, junk, junk, junk, junk, junk, junk, junk, junk, junk, junk, junk, junk, junk, junk, junk, junk, junk, junk, junk, junk, junk, junk, junk, junk, junk, junk, junk, junk, junk, junk, junk, junk, junk] ∧ H' = G ∧ priceRows w (pp.drop i) = priceRows w pp) ?_ ?_
  · exact ⟨by simp [forget], rfl, rfl⟩
  rintro i e H4 hi ⟨rfl, rfl, hv⟩
  ((repeat (first | refine q1 ?_ | refine q2 ?_ | refine q3 ?_ | refine q4 ?_ | refine q5 ?_ | refine q6 ?_ | refine q7 ?_ | refine q8 ?_ | refine q9 ?_ | refine qa ?_ | refine qb ?_ | refine qc ?_ | refine qd ?_ | refine qe (by decide) ?_ | refine qf ?_ | refine qg ?_ | ((first | apply aops_all | apply adraw_all); (simp (disch := first | exact List.all_nil | omega | (simp only [go_sem]; done) | (simp only [ln, List.length_map]; omega) | (repeat' first | assumption | exact Ext.refl _ | refine Ext.app ?_ _)) only [go_sem, hP2.len, hP2.idx, hP2.load]; rfl)))); (try ((first | apply aops_until | apply adraw_until); (simp (disch := first | exact List.all_nil | omega | (simp only [go_sem]; done) | (simp only [ln, List.length_map]; omega) | (repeat' first | assumption | exact Ext.refl _ | refine Ext.app ?_ _)) only [go_sem, hP2.len, hP2.idx, hP2.load]; rfl))))
  refine cond_p rfl (fun hlt => ?_) (fun hge => ?_)
  · have hi' : i < pp.length := by omega
    have hrow := hP2.row hi'
    have hrl := hrp i hi'
    rw [priceRows_step hi'] at hv
    ((repeat (first | refine q1 ?_ | refine q2 ?_ | refine q3 ?_ | refine q4 ?_ | refine q5 ?_ | refine q6 ?_ | refine q7 ?_ | refine q8 ?_ | refine q9 ?_ | refine qa ?_ | refine qb ?_ | refine qc ?_ | refine qd ?_ | refine qe (by decide) ?_ | refine qf ?_ | refine qg ?_ | ((first | apply aops_all | apply adraw_all); (simp (disch := first | exact List.all_nil | omega | (simp only [go_sem]; done) | (simp only [ln, List.length_map]; omega) | (repeat' first | assumption | exact Ext.refl _ | refine Ext.app ?_ _)) only [go_sem, hP2.len, hP2.idx, hP2.load, hrow.len, hrow.idx, hrow.load]; rfl)))); (try ((first | apply aops_until | apply adraw_until); (simp (disch := first | exact List.all_nil | omega | (simp only [go_sem]; done) | (simp only [ln, List.length_map]; omega) | (repeat' first | assumption | exact Ext.refl _ | refine Ext.app ?_ _)) only [go_sem, hP2.len, hP2.idx, hP2.load, hrow.len, hrow.idx, hrow.load]; rfl))))
    refine cond_p rfl (fun hne => ?_) (fun heq => ?_)
    · have e1 : priceRow w (pp.getD i []) = 10 := by unfold priceRow; rw [if_neg (by omega)]
      rw [e1, if_neg (by decide)] at hv
      ((repeat (first | refine q1 ?_ | refine q2 ?_ | refine q3 ?_ | refine q4 ?_ | refine q5 ?_ | refine q6 ?_ | refine q7 ?_ | refine q8 ?_ | refine q9 ?_ | refine qa ?_ | refine qb ?_ | refine qc ?_ | refine qd ?_ | refine qe (by decide) ?_ | refine qf ?_ | refine qg ?_ | ((first | apply aops_all | apply adraw_all); (simp (disch := first | exact List.all_nil | omega | (simp only [go_sem]; done) | (simp only [ln, List.length_map]; omega) | (repeat' first | assumption | exact Ext.refl _ | refine Ext.app ?_ _)) only [go_sem]; rfl)))); (try ((first | apply aops_until | apply adraw_until); (simp (disch := first | exact List.all_nil | omega | (simp only [go_sem]; done) | (simp only [ln, List.length_map]; omega) | (repeat' first | assumption | exact Ext.refl _ | refine Ext.app ?_ _)) only [go_sem]; rfl))))
      exact fin_1 ⟨by rw [ea, ← hv, if_neg (by decide)]; rfl, xG⟩
    have hwr : (pp.getD i []).length = w := by omega
    ((repeat (first | refine q1 ?_ | refine q2 ?_ | refine q3 ?_ | refine q4 ?_ | refine q5 ?_ | refine q6 ?_ | refine q7 ?_ | refine q8 ?_ | refine q9 ?_ | refine qa ?_ | refine qb ?_ | refine qc ?_ | refine qd ?_ | refine qe (by decide) ?_ | refine qf ?_ | refine qg ?_ | ((first | apply aops_all | apply adraw_all); (simp (disch := first | exact List.all_nil | omega | (simp only [go_sem]; done) | (simp only [ln, List.length_map]; omega) | (repeat' first | assumption | exact Ext.refl _ | refine Ext.app ?_ _)) only [go_sem]; rfl)))); (try ((first | apply aops_until | apply adraw_until); (simp (disch := first | exact List.all_nil | omega | (simp only [go_sem]; done) | (simp only [ln, List.length_map]; omega) | (repeat' first | assumption | exact Ext.refl _ | refine Ext.app ?_ _)) only [go_sem]; rfl))))
    refine awp_loop_n [false, true, true, false, false, true, true, true, false, false, false, false, false, false, false, false, false, false, false, false, false, false, false, false, false, false, false, false, false, false, false, false, false, false, false, false, false, false, false, false, false, false, false, false, false, false, false, false, false, false, false, false, false, false, false, false, false, false, false, false, false, false, false, false, false, false, false, false, false, false, false, false, false, false, false, false, false, false, false, false, false, false, false, false, false, false, false, false, false, false, false, false, false, false, false, false, false, false, false, false, false, false, false, false, false, false, false, false, false, false, false, false, false, false, false, false, false, false, false, false, false, false, false, false] w (fun c e H' => e = [junk, vp, .pointer (some ⟨H.length, 0, none⟩), junk, junk, .int .i64 w, .int .i64 i, .int .i64 c, junk, junk, junk, junk, junk, junk, junk, junk, junk, junk, junk, junk, junk, junk, junk, junk, junk, junk, junk, junk, junk, junk, junk, junk, junk, junk, junk, junk, junk, junk, junk, junk, junk, junk, junk, junk, junk, junk, junk, junk, junk, junk, junk, junk, junk, junk, junk, junk, junk, junk, junk, junk, junk, junk, junk, junk, junk, junk, junk, junk, junk, junk, junk, junk, junk, junk, junk, junk, junk, junk, junk, junk, junk, junk, junk, junk, junk, junk, junk, junk, junk, junk, junk, junk, junk, junk, junk, junk, junk, junk, junk, junk, junk, junk, junk, junk, junk, junk, junk, junk, junk, junk, junk, junk, junk, junk, junk, junk, junk, junk, junk, junk, junk, junk, junk, junk] ∧ H' = H4 ∧ ∀ j : Nat, j < c → -1000000 ≤ (pp.getD i []).getD j 0 ∧ (pp.getD i []).getD j 0 ≤ 1000000) ?_ ?_
    · exact ⟨by simp [forget], rfl, by omega⟩
    rintro c e H5 hc ⟨rfl, rfl, hbef⟩
    ((repeat (first | refine q1 ?_ | refine q2 ?_ | refine q3 ?_ | refine q4 ?_ | refine q5 ?_ | refine q6 ?_ | refine q7 ?_ | refine q8 ?_ | refine q9 ?_ | refine qa ?_ | refine qb ?_ | refine qc ?_ | refine qd ?_ | refine qe (by decide) ?_ | refine qf ?_ | refine qg ?_ | ((first | apply aops_all | apply adraw_all); (simp (disch := first | exact List.all_nil | omega | (simp only [go_sem]; done) | (simp only [ln, List.length_map]; omega) | (repeat' first | assumption | exact Ext.refl _ | refine Ext.app ?_ _)) only [go_sem]; rfl)))); (try ((first | apply aops_until | apply adraw_until); (simp (disch := first | exact List.all_nil | omega | (simp only [go_sem]; done) | (simp only [ln, List.length_map]; omega) | (repeat' first | assumption | exact Ext.refl _ | refine Ext.app ?_ _)) only [go_sem]; rfl))))
    refine cond_p rfl (fun hlt2 => ?_) (fun hge2 => ?_)
    · have hc' : c < w := by omega
      ((repeat (first | refine q1 ?_ | refine q2 ?_ | refine q3 ?_ | refine q4 ?_ | refine q5 ?_ | refine q6 ?_ | refine q7 ?_ | refine q8 ?_ | refine q9 ?_ | refine qa ?_ | refine qb ?_ | refine qc ?_ | refine qd ?_ | refine qe (by decide) ?_ | refine qf ?_ | refine qg ?_ | ((first | apply aops_all | apply adraw_all); (simp (disch := first | exact List.all_nil | omega | (simp only [go_sem]; done) | (simp only [ln, List.length_map]; omega) | (repeat' first | assumption | exact Ext.refl _ | refine Ext.app ?_ _)) only [go_sem, hP2.len, hP2.idx, hP2.load, hrow.len, hrow.idx, hrow.load]; rfl)))); (try ((first | apply aops_until | apply adraw_until); (simp (disch := first | exact List.all_nil | omega | (simp only [go_sem]; done) | (simp only [ln, List.length_map]; omega) | (repeat' first | assumption | exact Ext.refl _ | refine Ext.app ?_ _)) only [go_sem, hP2.len, hP2.idx, hP2.load, hrow.len, hrow.idx, hrow.load]; rfl))))
      refine aops_call_to (bwithin_c _ _ _) ?_
      ((repeat (first | refine q1 ?_ | refine q2 ?_ | refine q3 ?_ | refine q4 ?_ | refine q5 ?_ | refine q6 ?_ | refine q7 ?_ | refine q8 ?_ | refine q9 ?_ | refine qa ?_ | refine qb ?_ | refine qc ?_ | refine qd ?_ | refine qe (by decide) ?_ | refine qf ?_ | refine qg ?_ | ((first | apply aops_all | apply adraw_all); (simp (disch := first | exact List.all_nil | omega | (simp only [go_sem]; done) | (simp only [ln, List.length_map]; omega) | (repeat' first | assumption | exact Ext.refl _ | refine Ext.app ?_ _)) only [go_sem]; rfl)))); (try ((first | apply aops_until | apply adraw_until); (simp (disch := first | exact List.all_nil | omega | (simp only [go_sem]; done) | (simp only [ln, List.length_map]; omega) | (repeat' first | assumption | exact Ext.refl _ | refine Ext.app ?_ _)) only [go_sem]; rfl))))
      refine cond_n rfl (fun hout => ?_) (fun hin => ?_)
      · have e1 : priceRow w (pp.getD i []) = 2 := by
          unfold priceRow
          rw [if_pos hwr, show (pp.getD i []).all (sizedB 1000000) = false from all_false (d := (0 : Int)) (i := c) (by omega) (dec_f hout)]; rfl
        rw [e1, if_neg (by decide)] at hv
        ((repeat (first | refine q1 ?_ | refine q2 ?_ | refine q3 ?_ | refine q4 ?_ | refine q5 ?_ | refine q6 ?_ | refine q7 ?_ | refine q8 ?_ | refine q9 ?_ | refine qa ?_ | refine qb ?_ | refine qc ?_ | refine qd ?_ | refine qe (by decide) ?_ | refine qf ?_ | refine qg ?_ | ((first | apply aops_all | apply adraw_all); (simp (disch := first | exact List.all_nil | omega | (simp only [go_sem]; done) | (simp only [ln, List.length_map]; omega) | (repeat' first | assumption | exact Ext.refl _ | refine Ext.app ?_ _)) only [go_sem]; rfl)))); (try ((first | apply aops_until | apply adraw_until); (simp (disch := first | exact List.all_nil | omega | (simp only [go_sem]; done) | (simp only [ln, List.length_map]; omega) | (repeat' first | assumption | exact Ext.refl _ | refine Ext.app ?_ _)) only [go_sem]; rfl))))
        exact fin_1 ⟨by rw [ea, ← hv, if_neg (by decide)]; rfl, xG⟩
      · ((repeat (first | refine q1 ?_ | refine q2 ?_ | refine q3 ?_ | refine q4 ?_ | refine q5 ?_ | refine q6 ?_ | refine q7 ?_ | refine q8 ?_ | refine q9 ?_ | refine qa ?_ | refine qb ?_ | refine qc ?_ | refine qd ?_ | refine qe (by decide) ?_ | refine qf ?_ | refine qg ?_ | ((first | apply aops_all | apply adraw_all); (simp (disch := first | exact List.all_nil | omega | (simp only [go_sem]; done) | (simp only [ln, List.length_map]; omega) | (repeat' first | assumption | exact Ext.refl _ | refine Ext.app ?_ _)) only [go_sem]; rfl)))); (try ((first | apply aops_until | apply adraw_until); (simp (disch := first | exact List.all_nil | omega | (simp only [go_sem]; done) | (simp only [ln, List.length_map]; omega) | (repeat' first | assumption | exact Ext.refl _ | refine Ext.app ?_ _)) only [go_sem]; rfl))))
        refine ⟨by omega, by simp [forget], rfl, fun j hj => ?_⟩
        by_cases hjc : j = c
        · subst hjc; exact hin
        · exact hbef j (by omega)
    · have e1 : priceRow w (pp.getD i []) = 0 := by
        unfold priceRow
        rw [if_pos hwr, show (pp.getD i []).all (sizedB 1000000) = true from all_true (d := (0 : Int)) fun j hj => dec_t (hbef j (by omega))]; rfl
      rw [e1, if_pos rfl] at hv
      ((repeat (first | refine q1 ?_ | refine q2 ?_ | refine q3 ?_ | refine q4 ?_ | refine q5 ?_ | refine q6 ?_ | refine q7 ?_ | refine q8 ?_ | refine q9 ?_ | refine qa ?_ | refine qb ?_ | refine qc ?_ | refine qd ?_ | refine qe (by decide) ?_ | refine qf ?_ | refine qg ?_ | ((first | apply aops_all | apply adraw_all); (simp (disch := first | exact List.all_nil | omega | (simp only [go_sem]; done) | (simp only [ln, List.length_map]; omega) | (repeat' first | assumption | exact Ext.refl _ | refine Ext.app ?_ _)) only [go_sem]; rfl)))); (try ((first | apply aops_until | apply adraw_until); (simp (disch := first | exact List.all_nil | omega | (simp only [go_sem]; done) | (simp only [ln, List.length_map]; omega) | (repeat' first | assumption | exact Ext.refl _ | refine Ext.app ?_ _)) only [go_sem]; rfl))))
      exact ⟨by omega, by simp [forget], rfl, hv⟩
  rw [priceRows_end (by omega)] at hv
  have hrows := hv.symm
  rw [hrows, if_pos rfl] at ea
  have hall := priceRows_all hrows
  have bad : ¬ PricesOk ll bend pp → pricesErrL ll bend pp = 19 := fun h => by rw [ea, if_neg h]
  have prow : ∀ row, row < pp.length → (pp.getD row []).length = w := fun row h => (priceRow_ok (hall row h)).1
  have pval : ∀ row, row < pp.length → ∀ c : Nat, -1000000 ≤ (pp.getD row []).getD c 0 ∧ (pp.getD row []).getD c 0 ≤ 1000000 := fun row h => (priceRow_ok (hall row h)).2
  clear hv
  ((repeat (first | refine q1 ?_ | refine q2 ?_ | refine q3 ?_ | refine q4 ?_ | refine q5 ?_ | refine q6 ?_ | refine q7 ?_ | refine q8 ?_ | refine q9 ?_ | refine qa ?_ | refine qb ?_ | refine qc ?_ | refine qd ?_ | refine qe (by decide) ?_ | refine qf ?_ | refine qg ?_ | ((first | apply aops_all | apply adraw_all); (simp (disch := first | exact List.all_nil | omega | (simp only [go_sem]; done) | (simp only [ln, List.length_map]; omega) | (repeat' first | assumption | exact Ext.refl _ | refine Ext.app ?_ _)) only [go_sem]; rfl)))); (try ((first | apply aops_until | apply adraw_until); (simp (disch := first | exact List.all_nil | omega | (simp only [go_sem]; done) | (simp only [ln, List.length_map]; omega) | (repeat' first | assumption | exact Ext.refl _ | refine Ext.app ?_ _)) only [go_sem]; rfl))))
  refine awp_loop_n [false, true, true, false, false, true, false, false, true, false, false, false, false, false, false, false, false, false, false, false, false, false, false, false, false, false, false, false, false, false, false, false, false, false, false, false, false, false, false, false, false, false, false, false, false, false, false, false, false, false, false, false, false, false, false, false, false, false, false, false, false, false, false, false, false, false, false, false, false, false, false, false, false, false, false, false, false, false, false, false, false, false, false, false, false, false, false, false, false, false, false, false, false, false, false, false, false, false, false, false, false, false, false, false, false, false, false, false, false, false, false, false, false, false, false, false, false, false, false, false, false, false, false, false] pp.length (fun row e H' => e = [junk, vp, .pointer (some ⟨H.length, 0, none⟩), junk, junk, .int .i64 w, junk, junk, .int .i64 row, junk, junk, junk, junk, junk, junk, junk, junk, junk, junk, junk, junk, junk, junk, junk, junk, junk, junk, junk, junk, junk, junk, junk, junk, junk, junk, junk, junk, junk, junk, junk, junk, junk, junk, junk, junk, junk, junk, junk, junk, junk, junk, junk, junk, junk, junk, junk, junk, junk, junk, junk, junk, junk, junk, junk, junk, junk, junk, junk, junk, junk, junk, junk, junk, junk, junk, junk, junk, junk, junk, junk, junk, junk, junk, junk, junk, junk, junk, junk, junk, junk, junk, junk, junk, junk, junk, junk, junk, junk, junk, junk, junk, junk, junk, junk, junk, junk, junk, junk, junk, junk, junk, junk, junk, junk, junk, junk, junk, junk, junk, junk, junk, junk, junk, junk] ∧ H' = H4 ∧
    ∀ r, r < row → ∀ c, c < w → (pp.getD r []).getD c 0 ≤ mostL ll bend pp r c) ?_ ?_
  · exact ⟨by simp [forget], rfl, by omega⟩
  rintro row e H5 hrowi ⟨rfl, rfl, hbef⟩
  ((repeat (first | refine q1 ?_ | refine q2 ?_ | refine q3 ?_ | refine q4 ?_ | refine q5 ?_ | refine q6 ?_ | refine q7 ?_ | refine q8 ?_ | refine q9 ?_ | refine qa ?_ | refine qb ?_ | refine qc ?_ | refine qd ?_ | refine qe (by decide) ?_ | refine qf ?_ | refine qg ?_ | ((first | apply aops_all | apply adraw_all); (simp (disch := first | exact List.all_nil | omega | (simp only [go_sem]; done) | (simp only [ln, List.length_map]; omega) | (repeat' first | assumption | exact Ext.refl _ | refine Ext.app ?_ _)) only [go_sem, hP2.len, hP2.idx, hP2.load]; rfl)))); (try ((first | apply aops_until | apply adraw_until); (simp (disch := first | exact List.all_nil | omega | (simp only [go_sem]; done) | (simp only [ln, List.length_map]; omega) | (repeat' first | assumption | exact Ext.refl _ | refine Ext.app ?_ _)) only [go_sem, hP2.len, hP2.idx, hP2.load]; rfl))))
  refine cond_p rfl (fun hlt2 => ?_) (fun hge2 => ?_)
  rotate_left 1
  · obtain rfl : row = pp.length := by omega
    have hpok : PricesOk ll bend pp := by rw [hw] at hbef; exact hbef
    have e3 : pricesErrL ll bend pp = 0 := by rw [ea, if_pos hpok]
    rw [e3]
    ((repeat (first | refine q1 ?_ | refine q2 ?_ | refine q3 ?_ | refine q4 ?_ | refine q5 ?_ | refine q6 ?_ | refine q7 ?_ | refine q8 ?_ | refine q9 ?_ | refine qa ?_ | refine qb ?_ | refine qc ?_ | refine qd ?_ | refine qe (by decide) ?_ | refine qf ?_ | refine qg ?_ | ((first | apply aops_all | apply adraw_all); (simp (disch := first | exact List.all_nil | omega | (simp only [go_sem]; done) | (simp only [ln, List.length_map]; omega) | (repeat' first | assumption | exact Ext.refl _ | refine Ext.app ?_ _)) only [go_sem]; rfl)))); (try ((first | apply aops_until | apply adraw_until); (simp (disch := first | exact List.all_nil | omega | (simp only [go_sem]; done) | (simp only [ln, List.length_map]; omega) | (repeat' first | assumption | exact Ext.refl _ | refine Ext.app ?_ _)) only [go_sem]; rfl))))
    exact fin_1 ⟨rfl, xG⟩
  have hr' : row < pp.length := by omega
  have hrow := hP2.row hr'
  have hwid := prow row hr'
  have hstr := hL2.row (k := row) (by omega)
  have hwst := w5 row (by omega)
  rw [← hw] at hwst
  ((repeat (first | refine q1 ?_ | refine q2 ?_ | refine q3 ?_ | refine q4 ?_ | refine q5 ?_ | refine q6 ?_ | refine q7 ?_ | refine q8 ?_ | refine q9 ?_ | refine qa ?_ | refine qb ?_ | refine qc ?_ | refine qd ?_ | refine qe (by decide) ?_ | refine qf ?_ | refine qg ?_ | ((first | apply aops_all | apply adraw_all); (simp (disch := first | exact List.all_nil | omega | (simp only [go_sem]; done) | (simp only [ln, List.length_map]; omega) | (repeat' first | assumption | exact Ext.refl _ | refine Ext.app ?_ _)) only [go_sem]; rfl)))); (try ((first | apply aops_until | apply adraw_until); (simp (disch := first | exact List.all_nil | omega | (simp only [go_sem]; done) | (simp only [ln, List.length_map]; omega) | (repeat' first | assumption | exact Ext.refl _ | refine Ext.app ?_ _)) only [go_sem]; rfl))))
  refine awp_loop_n [false, true, true, false, false, true, false, false, true, true, false, false, false, false, false, false, false, false, false, false, false, false, false, false, false, false, false, false, false, false, false, false, false, false, false, false, false, false, false, false, false, false, false, false, false, false, false, false, false, false, false, false, false, false, false, false, false, false, false, false, false, false, false, false, false, false, false, false, false, false, false, false, false, false, false, false, false, false, false, false, false, false, false, false, false, false, false, false, false, false, false, false, false, false, false, false, false, false, false, false, false, false, false, false, false, false, false, false, false, false, false, false, false, false, false, false, false, false, false, false, false, false, false, false] w (fun c e H' => e = [junk, vp, .pointer (some ⟨H.length, 0, none⟩), junk, junk, .int .i64 w, junk, junk, .int .i64 row, .int .i64 c, junk, junk, junk, junk, junk, junk, junk, junk, junk, junk, junk, junk, junk, junk, junk, junk, junk, junk, junk, junk, junk, junk, junk, junk, junk, junk, junk, junk, junk, junk, junk, junk, junk, junk, junk, junk, junk, junk, junk, junk, junk, junk, junk, junk, junk, junk, junk, junk, junk, junk, junk, junk, junk, junk, junk, junk, junk, junk, junk, junk, junk, junk, junk, junk, junk, junk, junk, junk, junk, junk, junk, junk, junk, junk, junk, junk, junk, junk, junk, junk, junk, junk, junk, junk, junk, junk, junk, junk, junk, junk, junk, junk, junk, junk, junk, junk, junk, junk, junk, junk, junk, junk, junk, junk, junk, junk, junk, junk, junk, junk, junk, junk, junk, junk] ∧ H' = H5 ∧ ∀ c', c' < c → (pp.getD row []).getD c' 0 ≤ mostL ll bend pp row c') ?_ ?_
  · exact ⟨by simp [forget], rfl, by omega⟩
  rintro c e H6 hci ⟨rfl, rfl, hbef2⟩
  ((repeat (first | refine q1 ?_ | refine q2 ?_ | refine q3 ?_ | refine q4 ?_ | refine q5 ?_ | refine q6 ?_ | refine q7 ?_ | refine q8 ?_ | refine q9 ?_ | refine qa ?_ | refine qb ?_ | refine qc ?_ | refine qd ?_ | refine qe (by decide) ?_ | refine qf ?_ | refine qg ?_ | ((first | apply aops_all | apply adraw_all); (simp (disch := first | exact List.all_nil | omega | (simp only [go_sem]; done) | (simp only [ln, List.length_map]; omega) | (repeat' first | assumption | exact Ext.refl _ | refine Ext.app ?_ _)) only [go_sem]; rfl)))); (try ((first | apply aops_until | apply adraw_until); (simp (disch := first | exact List.all_nil | omega | (simp only [go_sem]; done) | (simp only [ln, List.length_map]; omega) | (repeat' first | assumption | exact Ext.refl _ | refine Ext.app ?_ _)) only [go_sem]; rfl))))
  refine cond_p rfl (fun hlt3 => ?_) (fun hge3 => ?_)
  rotate_left 1
  · ((repeat (first | refine q1 ?_ | refine q2 ?_ | refine q3 ?_ | refine q4 ?_ | refine q5 ?_ | refine q6 ?_ | refine q7 ?_ | refine q8 ?_ | refine q9 ?_ | refine qa ?_ | refine qb ?_ | refine qc ?_ | refine qd ?_ | refine qe (by decide) ?_ | refine qf ?_ | refine qg ?_ | ((first | apply aops_all | apply adraw_all); (simp (disch := first | exact List.all_nil | omega | (simp only [go_sem]; done) | (simp only [ln, List.length_map]; omega) | (repeat' first | assumption | exact Ext.refl _ | refine Ext.app ?_ _)) only [go_sem]; rfl)))); (try ((first | apply aops_until | apply adraw_until); (simp (disch := first | exact List.all_nil | omega | (simp only [go_sem]; done) | (simp only [ln, List.length_map]; omega) | (repeat' first | assumption | exact Ext.refl _ | refine Ext.app ?_ _)) only [go_sem]; rfl))))
    refine ⟨by omega, by simp [forget], rfl, fun r hr c' hc' => ?_⟩
    by_cases hrr : r = row
    · subst hrr; exact hbef2 c' (by omega)
    · exact hbef r (by omega) c' hc'
  have hc' : c < w := by omega
  have step : (pp.getD row []).getD c 0 ≤ mostL ll bend pp row c → ∀ c', c' < c + 1 → (pp.getD row []).getD c' 0 ≤ mostL ll bend pp row c' := fun h c' hc' => by
    by_cases hcc : c' = c
    · subst hcc; exact h
    · exact hbef2 c' (by omega)
  have c0 : max 0 ((c : Int) - 1) = ((c - 1 : Nat) : Int) := by omega
  by_cases hz : row = 0
  · have em : mostL ll bend pp row c = (ll.getD 0 []).getD c 0 := if_pos hz
    have hp0 := hP2.row (k := 0) (by omega)
    have hp0w := prow 0 (by omega)
    by_cases hgt : (ll.getD 0 []).getD c 0 < (pp.getD 0 []).getD c 0
    · ((repeat (first | refine q1 ?_ | refine q2 ?_ | refine q3 ?_ | refine q4 ?_ | refine q5 ?_ | refine q6 ?_ | refine q7 ?_ | refine q8 ?_ | refine q9 ?_ | refine qa ?_ | refine qb ?_ | refine qc ?_ | refine qd ?_ | refine qe (by decide) ?_ | refine qf ?_ | refine qg ?_ | ((first | apply aops_all | apply adraw_all); (simp (disch := first | exact List.all_nil | omega | (simp only [go_sem]; done) | (simp only [ln, List.length_map]; omega) | (repeat' first | assumption | exact Ext.refl _ | refine Ext.app ?_ _)) only [go_sem, hP2.len, hP2.idx, hP2.load, hp0.len, hp0.idx, hp0.load, hL2.len, hL2.idx, hL2.load, hr0.len, hr0.idx, hr0.load, load_at g0, z0, dec_t (show (row : Int) = 0 by omega), dec_t hgt]; rfl)))); (try ((first | apply aops_until | apply adraw_until); (simp (disch := first | exact List.all_nil | omega | (simp only [go_sem]; done) | (simp only [ln, List.length_map]; omega) | (repeat' first | assumption | exact Ext.refl _ | refine Ext.app ?_ _)) only [go_sem, hP2.len, hP2.idx, hP2.load, hp0.len, hp0.idx, hp0.load, hL2.len, hL2.idx, hL2.load, hr0.len, hr0.idx, hr0.load, load_at g0, z0, dec_t (show (row : Int) = 0 by omega), dec_t hgt]; rfl))))
      refine cond_t rfl ?_
      have hb : ¬ PricesOk ll bend pp := fun h => by
        have := h row hr' c (by omega)
        rw [hz] at this em
        omega
      rw [bad hb]
      ((repeat (first | refine q1 ?_ | refine q2 ?_ | refine q3 ?_ | refine q4 ?_ | refine q5 ?_ | refine q6 ?_ | refine q7 ?_ | refine q8 ?_ | refine q9 ?_ | refine qa ?_ | refine qb ?_ | refine qc ?_ | refine qd ?_ | refine qe (by decide) ?_ | refine qf ?_ | refine qg ?_ | ((first | apply aops_all | apply adraw_all); (simp (disch := first | exact List.all_nil | omega | (simp only [go_sem]; done) | (simp only [ln, List.length_map]; omega) | (repeat' first | assumption | exact Ext.refl _ | refine Ext.app ?_ _)) only [go_sem]; rfl)))); (try ((first | apply aops_until | apply adraw_until); (simp (disch := first | exact List.all_nil | omega | (simp only [go_sem]; done) | (simp only [ln, List.length_map]; omega) | (repeat' first | assumption | exact Ext.refl _ | refine Ext.app ?_ _)) only [go_sem]; rfl))))
      exact fin_1 ⟨rfl, xG⟩
    · have hle : (pp.getD row []).getD c 0 ≤ mostL ll bend pp row c := by rw [em, hz]; omega
      ((repeat (first | refine q1 ?_ | refine q2 ?_ | refine q3 ?_ | refine q4 ?_ | refine q5 ?_ | refine q6 ?_ | refine q7 ?_ | refine q8 ?_ | refine q9 ?_ | refine qa ?_ | refine qb ?_ | refine qc ?_ | refine qd ?_ | refine qe (by decide) ?_ | refine qf ?_ | refine qg ?_ | ((first | apply aops_all | apply adraw_all); (simp (disch := first | exact List.all_nil | omega | (simp only [go_sem]; done) | (simp only [ln, List.length_map]; omega) | (repeat' first | assumption | exact Ext.refl _ | refine Ext.app ?_ _)) only [go_sem, hP2.len, hP2.idx, hP2.load, hp0.len, hp0.idx, hp0.load, hL2.len, hL2.idx, hL2.load, hr0.len, hr0.idx, hr0.load, load_at g0, z0, dec_t (show (row : Int) = 0 by omega), dec_f hgt]; rfl)))); (try ((first | apply aops_until | apply adraw_until); (simp (disch := first | exact List.all_nil | omega | (simp only [go_sem]; done) | (simp only [ln, List.length_map]; omega) | (repeat' first | assumption | exact Ext.refl _ | refine Ext.app ?_ _)) only [go_sem, hP2.len, hP2.idx, hP2.load, hp0.len, hp0.idx, hp0.load, hL2.len, hL2.idx, hL2.load, hr0.len, hr0.idx, hr0.load, load_at g0, z0, dec_t (show (row : Int) = 0 by omega), dec_f hgt]; rfl))))
      refine cond_f rfl ?_
      ((repeat (first | refine q1 ?_ | refine q2 ?_ | refine q3 ?_ | refine q4 ?_ | refine q5 ?_ | refine q6 ?_ | refine q7 ?_ | refine q8 ?_ | refine q9 ?_ | refine qa ?_ | refine qb ?_ | refine qc ?_ | refine qd ?_ | refine qe (by decide) ?_ | refine qf ?_ | refine qg ?_ | ((first | apply aops_all | apply adraw_all); (simp (disch := first | exact List.all_nil | omega | (simp only [go_sem]; done) | (simp only [ln, List.length_map]; omega) | (repeat' first | assumption | exact Ext.refl _ | refine Ext.app ?_ _)) only [go_sem, c0]; rfl)))); (try ((first | apply aops_until | apply adraw_until); (simp (disch := first | exact List.all_nil | omega | (simp only [go_sem]; done) | (simp only [ln, List.length_map]; omega) | (repeat' first | assumption | exact Ext.refl _ | refine Ext.app ?_ _)) only [go_sem, c0]; rfl))))
      refine awp_loop_n [false, true, true, false, false, true, false, false, true, true, true, false, false, false, false, false, false, false, false, false, false, false, false, false, false, false, false, false, false, false, false, false, false, false, false, false, false, false, false, false, false, false, false, false, false, false, false, false, false, false, false, false, false, false, false, false, false, false, false, false, false, false, false, false, false, false, false, false, false, false, false, false, false, false, false, false, false, false, false, false, false, false, false, false, false, false, false, false, false, false, false, false, false, false, false, false, false, false, false, false, false, false, false, false, false, false, false, false, false, false, false, false, false, false, false, false, false, false, false, false, false, false, false, false] 1 (fun i e H' => i = 0 ∧ e = [junk, vp, .pointer (some ⟨H.length, 0, none⟩), junk, junk, .int .i64 w, junk, junk, .int .i64 row, .int .i64 c, .int .i64 ((c - 1 : Nat) : Int), junk, junk, junk, junk, junk, junk, junk, junk, junk, junk, junk, junk, junk, junk, junk, junk, junk, junk, junk, junk, junk, junk, junk, junk, junk, junk, junk, junk, junk, junk, junk, junk, junk, junk, junk, junk, junk, junk, junk, junk, junk, junk, junk, junk, junk, junk, junk, junk, junk, junk, junk, junk, junk, junk, junk, junk, junk, junk, junk, junk, junk, junk, junk, junk, junk, junk, junk, junk, junk, junk, junk, junk, junk, junk, junk, junk, junk, junk, junk, junk, junk, junk, junk, junk, junk, junk, junk, junk, junk, junk, junk, junk, junk, junk, junk, junk, junk, junk, junk, junk, junk, junk, junk, junk, junk, junk, junk, junk, junk, junk, junk, junk, junk] ∧ H' = H6) ?_ ?_
      · exact ⟨rfl, by simp [forget], rfl⟩
      rintro i e H7 _ ⟨rfl, rfl, rfl⟩
      by_cases hcmp : ((c - 1 : Nat) : Int) ≤ min ((c : Int) + 1) ((w : Int) - 1)
      · ((repeat (first | refine q1 ?_ | refine q2 ?_ | refine q3 ?_ | refine q4 ?_ | refine q5 ?_ | refine q6 ?_ | refine q7 ?_ | refine q8 ?_ | refine q9 ?_ | refine qa ?_ | refine qb ?_ | refine qc ?_ | refine qd ?_ | refine qe (by decide) ?_ | refine qf ?_ | refine qg ?_ | ((first | apply aops_all | apply adraw_all); (simp (disch := first | exact List.all_nil | omega | (simp only [go_sem]; done) | (simp only [ln, List.length_map]; omega) | (repeat' first | assumption | exact Ext.refl _ | refine Ext.app ?_ _)) only [go_sem, dec_t hcmp, dec_f (show ¬ 0 < (row : Int) by omega)]; rfl)))); (try ((first | apply aops_until | apply adraw_until); (simp (disch := first | exact List.all_nil | omega | (simp only [go_sem]; done) | (simp only [ln, List.length_map]; omega) | (repeat' first | assumption | exact Ext.refl _ | refine Ext.app ?_ _)) only [go_sem, dec_t hcmp, dec_f (show ¬ 0 < (row : Int) by omega)]; rfl))))
        refine cond_f rfl ?_
        ((repeat (first | refine q1 ?_ | refine q2 ?_ | refine q3 ?_ | refine q4 ?_ | refine q5 ?_ | refine q6 ?_ | refine q7 ?_ | refine q8 ?_ | refine q9 ?_ | refine qa ?_ | refine qb ?_ | refine qc ?_ | refine qd ?_ | refine qe (by decide) ?_ | refine qf ?_ | refine qg ?_ | ((first | apply aops_all | apply adraw_all); (simp (disch := first | exact List.all_nil | omega | (simp only [go_sem]; done) | (simp only [ln, List.length_map]; omega) | (repeat' first | assumption | exact Ext.refl _ | refine Ext.app ?_ _)) only [go_sem]; rfl)))); (try ((first | apply aops_until | apply adraw_until); (simp (disch := first | exact List.all_nil | omega | (simp only [go_sem]; done) | (simp only [ln, List.length_map]; omega) | (repeat' first | assumption | exact Ext.refl _ | refine Ext.app ?_ _)) only [go_sem]; rfl))))
        exact ⟨by omega, by simp [forget], rfl, step hle⟩
      · ((repeat (first | refine q1 ?_ | refine q2 ?_ | refine q3 ?_ | refine q4 ?_ | refine q5 ?_ | refine q6 ?_ | refine q7 ?_ | refine q8 ?_ | refine q9 ?_ | refine qa ?_ | refine qb ?_ | refine qc ?_ | refine qd ?_ | refine qe (by decide) ?_ | refine qf ?_ | refine qg ?_ | ((first | apply aops_all | apply adraw_all); (simp (disch := first | exact List.all_nil | omega | (simp only [go_sem]; done) | (simp only [ln, List.length_map]; omega) | (repeat' first | assumption | exact Ext.refl _ | refine Ext.app ?_ _)) only [go_sem, dec_f hcmp]; rfl)))); (try ((first | apply aops_until | apply adraw_until); (simp (disch := first | exact List.all_nil | omega | (simp only [go_sem]; done) | (simp only [ln, List.length_map]; omega) | (repeat' first | assumption | exact Ext.refl _ | refine Ext.app ?_ _)) only [go_sem, dec_f hcmp]; rfl))))
        refine cond_f rfl ?_
        ((repeat (first | refine q1 ?_ | refine q2 ?_ | refine q3 ?_ | refine q4 ?_ | refine q5 ?_ | refine q6 ?_ | refine q7 ?_ | refine q8 ?_ | refine q9 ?_ | refine qa ?_ | refine qb ?_ | refine qc ?_ | refine qd ?_ | refine qe (by decide) ?_ | refine qf ?_ | refine qg ?_ | ((first | apply aops_all | apply adraw_all); (simp (disch := first | exact List.all_nil | omega | (simp only [go_sem]; done) | (simp only [ln, List.length_map]; omega) | (repeat' first | assumption | exact Ext.refl _ | refine Ext.app ?_ _)) only [go_sem]; rfl)))); (try ((first | apply aops_until | apply adraw_until); (simp (disch := first | exact List.all_nil | omega | (simp only [go_sem]; done) | (simp only [ln, List.length_map]; omega) | (repeat' first | assumption | exact Ext.refl _ | refine Ext.app ?_ _)) only [go_sem]; rfl))))
        exact ⟨by omega, by simp [forget], rfl, step hle⟩
  · have em : mostL ll bend pp row c = ceilL ll bend (pp.getD (row - 1) []) row c := if_neg hz
    have hprev := hP2.row (k := row - 1) (by omega)
    have hprevw := prow (row - 1) (by omega)
    have hvb := val_bound w6 row c
    have hpb := pval row hr' c
    have hpp := pval (row - 1) (by omega)
    have hle := le_ceilL (ll := ll) (bend := bend) (bef := pp.getD (row - 1) []) (row := row) (c := c) hpb.2 hvb.1
    rw [← hw] at hle
    have hnl := nbL_len w c
    ((repeat (first | refine q1 ?_ | refine q2 ?_ | refine q3 ?_ | refine q4 ?_ | refine q5 ?_ | refine q6 ?_ | refine q7 ?_ | refine q8 ?_ | refine q9 ?_ | refine qa ?_ | refine qb ?_ | refine qc ?_ | refine qd ?_ | refine qe (by decide) ?_ | refine qf ?_ | refine qg ?_ | ((first | apply aops_all | apply adraw_all); (simp (disch := first | exact List.all_nil | omega | (simp only [go_sem]; done) | (simp only [ln, List.length_map]; omega) | (repeat' first | assumption | exact Ext.refl _ | refine Ext.app ?_ _)) only [go_sem, dec_f (show ¬ (row : Int) = 0 by omega)]; rfl)))); (try ((first | apply aops_until | apply adraw_until); (simp (disch := first | exact List.all_nil | omega | (simp only [go_sem]; done) | (simp only [ln, List.length_map]; omega) | (repeat' first | assumption | exact Ext.refl _ | refine Ext.app ?_ _)) only [go_sem, dec_f (show ¬ (row : Int) = 0 by omega)]; rfl))))
    refine cond_f rfl ?_
    ((repeat (first | refine q1 ?_ | refine q2 ?_ | refine q3 ?_ | refine q4 ?_ | refine q5 ?_ | refine q6 ?_ | refine q7 ?_ | refine q8 ?_ | refine q9 ?_ | refine qa ?_ | refine qb ?_ | refine qc ?_ | refine qd ?_ | refine qe (by decide) ?_ | refine qf ?_ | refine qg ?_ | ((first | apply aops_all | apply adraw_all); (simp (disch := first | exact List.all_nil | omega | (simp only [go_sem]; done) | (simp only [ln, List.length_map]; omega) | (repeat' first | assumption | exact Ext.refl _ | refine Ext.app ?_ _)) only [go_sem, c0]; rfl)))); (try ((first | apply aops_until | apply adraw_until); (simp (disch := first | exact List.all_nil | omega | (simp only [go_sem]; done) | (simp only [ln, List.length_map]; omega) | (repeat' first | assumption | exact Ext.refl _ | refine Ext.app ?_ _)) only [go_sem, c0]; rfl))))
    refine awp_loop_n [false, true, true, false, false, true, false, false, true, true, true, false, false, false, false, false, false, false, false, false, false, false, false, false, false, false, false, false, false, false, false, false, false, false, false, false, false, false, false, false, false, false, false, false, false, false, false, false, false, false, false, false, false, false, false, false, false, false, false, false, false, false, false, false, false, false, false, false, false, false, false, false, false, false, false, false, false, false, false, false, false, false, false, false, false, false, false, false, false, false, false, false, false, false, false, false, false, false, false, false, false, false, false, false, false, false, false, false, false, false, false, false, false, false, false, false, false, false, false, false, false, false, false, false] (nbL w c).length (fun i e H' => e = [junk, vp, .pointer (some ⟨H.length, 0, none⟩), junk, junk, .int .i64 w, junk, junk, .int .i64 row, .int .i64 c, .int .i64 ((c - 1 + i : Nat) : Int), junk, junk, junk, junk, junk, junk, junk, junk, junk, junk, junk, junk, junk, junk, junk, junk, junk, junk, junk, junk, junk, junk, junk, junk, junk, junk, junk, junk, junk, junk, junk, junk, junk, junk, junk, junk, junk, junk, junk, junk, junk, junk, junk, junk, junk, junk, junk, junk, junk, junk, junk, junk, junk, junk, junk, junk, junk, junk, junk, junk, junk, junk, junk, junk, junk, junk, junk, junk, junk, junk, junk, junk, junk, junk, junk, junk, junk, junk, junk, junk, junk, junk, junk, junk, junk, junk, junk, junk, junk, junk, junk, junk, junk, junk, junk, junk, junk, junk, junk, junk, junk, junk, junk, junk, junk, junk, junk, junk, junk, junk, junk, junk, junk] ∧ H' = H6 ∧
      ∀ j, j < i → (pp.getD row []).getD c 0 ≤ (ll.getD row []).getD c 0 + (pp.getD (row - 1) []).getD ((nbL w c).getD j 0) 0 + bendI bend ((nbL w c).getD j 0 : Nat) c) ?_ ?_
    · exact ⟨by simp [forget], rfl, by omega⟩
    rintro i e H7 hii ⟨rfl, rfl, hbef3⟩
    by_cases hi' : i < (nbL w c).length
    rotate_left 1
    · ((repeat (first | refine q1 ?_ | refine q2 ?_ | refine q3 ?_ | refine q4 ?_ | refine q5 ?_ | refine q6 ?_ | refine q7 ?_ | refine q8 ?_ | refine q9 ?_ | refine qa ?_ | refine qb ?_ | refine qc ?_ | refine qd ?_ | refine qe (by decide) ?_ | refine qf ?_ | refine qg ?_ | ((first | apply aops_all | apply adraw_all); (simp (disch := first | exact List.all_nil | omega | (simp only [go_sem]; done) | (simp only [ln, List.length_map]; omega) | (repeat' first | assumption | exact Ext.refl _ | refine Ext.app ?_ _)) only [go_sem, dec_f (show ¬ ((c - 1 + i : Nat) : Int) ≤ min ((c : Int) + 1) ((w : Int) - 1) by omega)]; rfl)))); (try ((first | apply aops_until | apply adraw_until); (simp (disch := first | exact List.all_nil | omega | (simp only [go_sem]; done) | (simp only [ln, List.length_map]; omega) | (repeat' first | assumption | exact Ext.refl _ | refine Ext.app ?_ _)) only [go_sem, dec_f (show ¬ ((c - 1 + i : Nat) : Int) ≤ min ((c : Int) + 1) ((w : Int) - 1) by omega)]; rfl))))
      refine cond_f rfl ?_
      ((repeat (first | refine q1 ?_ | refine q2 ?_ | refine q3 ?_ | refine q4 ?_ | refine q5 ?_ | refine q6 ?_ | refine q7 ?_ | refine q8 ?_ | refine q9 ?_ | refine qa ?_ | refine qb ?_ | refine qc ?_ | refine qd ?_ | refine qe (by decide) ?_ | refine qf ?_ | refine qg ?_ | ((first | apply aops_all | apply adraw_all); (simp (disch := first | exact List.all_nil | omega | (simp only [go_sem]; done) | (simp only [ln, List.length_map]; omega) | (repeat' first | assumption | exact Ext.refl _ | refine Ext.app ?_ _)) only [go_sem]; rfl)))); (try ((first | apply aops_until | apply adraw_until); (simp (disch := first | exact List.all_nil | omega | (simp only [go_sem]; done) | (simp only [ln, List.length_map]; omega) | (repeat' first | assumption | exact Ext.refl _ | refine Ext.app ?_ _)) only [go_sem]; rfl))))
      refine ⟨by omega, by simp [forget], rfl, step ?_⟩
      rw [em]
      refine hle.2 fun d hd => ?_
      obtain ⟨j, hj, hjd⟩ := mem_getD (d := 0) hd
      have := hbef3 j (by omega)
      rw [hjd] at this
      exact this
    have hget := nbL_getD hi'
    have hmem := (nbL_mem hc').1 (getD_mem (d := 0) hi')
    rw [hget] at hmem
    have bb := bendI_bound (a := ((c - 1 + i : Nat) : Int)) (b := (c : Int)) hbe
    have hd1 := hpp (c - 1 + i)
    have c1 : ((row : Int) - 1) = ((row - 1 : Nat) : Int) := by omega
    ((repeat (first | refine q1 ?_ | refine q2 ?_ | refine q3 ?_ | refine q4 ?_ | refine q5 ?_ | refine q6 ?_ | refine q7 ?_ | refine q8 ?_ | refine q9 ?_ | refine qa ?_ | refine qb ?_ | refine qc ?_ | refine qd ?_ | refine qe (by decide) ?_ | refine qf ?_ | refine qg ?_ | ((first | apply aops_all | apply adraw_all); (simp (disch := first | exact List.all_nil | omega | (simp only [go_sem]; done) | (simp only [ln, List.length_map]; omega) | (repeat' first | assumption | exact Ext.refl _ | refine Ext.app ?_ _)) only [go_sem, dec_t (show ((c - 1 + i : Nat) : Int) ≤ min ((c : Int) + 1) ((w : Int) - 1) by omega), dec_t (show 0 < (row : Int) by omega)]; rfl)))); (try ((first | apply aops_until | apply adraw_until); (simp (disch := first | exact List.all_nil | omega | (simp only [go_sem]; done) | (simp only [ln, List.length_map]; omega) | (repeat' first | assumption | exact Ext.refl _ | refine Ext.app ?_ _)) only [go_sem, dec_t (show ((c - 1 + i : Nat) : Int) ≤ min ((c : Int) + 1) ((w : Int) - 1) by omega), dec_t (show 0 < (row : Int) by omega)]; rfl))))
    refine cond_t rfl ?_
    ((repeat (first | refine q1 ?_ | refine q2 ?_ | refine q3 ?_ | refine q4 ?_ | refine q5 ?_ | refine q6 ?_ | refine q7 ?_ | refine q8 ?_ | refine q9 ?_ | refine qa ?_ | refine qb ?_ | refine qc ?_ | refine qd ?_ | refine qe (by decide) ?_ | refine qf ?_ | refine qg ?_ | ((first | apply aops_all | apply adraw_all); (simp (disch := first | exact List.all_nil | omega | (simp only [go_sem]; done) | (simp only [ln, List.length_map]; omega) | (repeat' first | assumption | exact Ext.refl _ | refine Ext.app ?_ _)) only [go_sem, hP2.len, hP2.idx, hP2.load, hrow.len, hrow.idx, hrow.load, hL2.len, hL2.idx, hL2.load, hstr.len, hstr.idx, hstr.load, hprev.len, hprev.idx, hprev.load, load_at g0, loadN_at g0, c1]; rfl)))); (try ((first | apply aops_until | apply adraw_until); (simp (disch := first | exact List.all_nil | omega | (simp only [go_sem]; done) | (simp only [ln, List.length_map]; omega) | (repeat' first | assumption | exact Ext.refl _ | refine Ext.app ?_ _)) only [go_sem, hP2.len, hP2.idx, hP2.load, hrow.len, hrow.idx, hrow.load, hL2.len, hL2.idx, hL2.load, hstr.len, hstr.idx, hstr.load, hprev.len, hprev.idx, hprev.load, load_at g0, loadN_at g0, c1]; rfl))))
    refine adraw_call (N := []) (firstD (refBend_c hL2)) ?_
    rw [List.append_nil]
    ((repeat (first | refine q1 ?_ | refine q2 ?_ | refine q3 ?_ | refine q4 ?_ | refine q5 ?_ | refine q6 ?_ | refine q7 ?_ | refine q8 ?_ | refine q9 ?_ | refine qa ?_ | refine qb ?_ | refine qc ?_ | refine qd ?_ | refine qe (by decide) ?_ | refine qf ?_ | refine qg ?_ | ((first | apply aops_all | apply adraw_all); (simp (disch := first | exact List.all_nil | omega | (simp only [go_sem]; done) | (simp only [ln, List.length_map]; omega) | (repeat' first | assumption | exact Ext.refl _ | refine Ext.app ?_ _)) only [go_sem]; rfl)))); (try ((first | apply aops_until | apply adraw_until); (simp (disch := first | exact List.all_nil | omega | (simp only [go_sem]; done) | (simp only [ln, List.length_map]; omega) | (repeat' first | assumption | exact Ext.refl _ | refine Ext.app ?_ _)) only [go_sem]; rfl))))
    refine cond_p rfl (fun hgt => ?_) (fun hng => ?_)
    · have hb : ¬ PricesOk ll bend pp := fun h => by
        have h1 := h row hr' c (by omega)
        rw [em] at h1
        have h2 := hle.1 h1 (c - 1 + i) ((nbL_mem hc').2 hmem)
        omega
      rw [bad hb]
      ((repeat (first | refine q1 ?_ | refine q2 ?_ | refine q3 ?_ | refine q4 ?_ | refine q5 ?_ | refine q6 ?_ | refine q7 ?_ | refine q8 ?_ | refine q9 ?_ | refine qa ?_ | refine qb ?_ | refine qc ?_ | refine qd ?_ | refine qe (by decide) ?_ | refine qf ?_ | refine qg ?_ | ((first | apply aops_all | apply adraw_all); (simp (disch := first | exact List.all_nil | omega | (simp only [go_sem]; done) | (simp only [ln, List.length_map]; omega) | (repeat' first | assumption | exact Ext.refl _ | refine Ext.app ?_ _)) only [go_sem]; rfl)))); (try ((first | apply aops_until | apply adraw_until); (simp (disch := first | exact List.all_nil | omega | (simp only [go_sem]; done) | (simp only [ln, List.length_map]; omega) | (repeat' first | assumption | exact Ext.refl _ | refine Ext.app ?_ _)) only [go_sem]; rfl))))
      exact fin_1 ⟨rfl, xG⟩
    · ((repeat (first | refine q1 ?_ | refine q2 ?_ | refine q3 ?_ | refine q4 ?_ | refine q5 ?_ | refine q6 ?_ | refine q7 ?_ | refine q8 ?_ | refine q9 ?_ | refine qa ?_ | refine qb ?_ | refine qc ?_ | refine qd ?_ | refine qe (by decide) ?_ | refine qf ?_ | refine qg ?_ | ((first | apply aops_all | apply adraw_all); (simp (disch := first | exact List.all_nil | omega | (simp only [go_sem]; done) | (simp only [ln, List.length_map]; omega) | (repeat' first | assumption | exact Ext.refl _ | refine Ext.app ?_ _)) only [go_sem]; rfl)))); (try ((first | apply aops_until | apply adraw_until); (simp (disch := first | exact List.all_nil | omega | (simp only [go_sem]; done) | (simp only [ln, List.length_map]; omega) | (repeat' first | assumption | exact Ext.refl _ | refine Ext.app ?_ _)) only [go_sem]; rfl))))
      refine ⟨by omega, by simp [forget]; omega, rfl, fun j hj => ?_⟩
      by_cases hji : j = i
      · subst hji; rw [hget]; omega
      · exact hbef3 j (by omega)
end
end Go.Lq

