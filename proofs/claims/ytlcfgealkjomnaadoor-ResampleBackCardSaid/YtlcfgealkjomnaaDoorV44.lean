/- ResampleBack is proved: for every input that can be read the law returns true, and each argument reads afterwards as it read before; the listed package variables hold what the program's text lays (the card ties them). -/
import Derived.Test.YtlcfgealkjomnaaDoorV43
set_option linter.unusedSimpArgs false
set_option linter.unnecessarySimpa false
set_option linter.unusedVariables false
set_option maxRecDepth 100000
namespace Go.Lq
open Go
open Go.Proofs

def outTo (f : Nat → Int) (k : Nat) : List Int := (List.range k).map f
theorem outTo_len (f : Nat → Int) (k : Nat) : (outTo f k).length = k := by simp [outTo]
theorem outTo_succ (f : Nat → Int) (k : Nat) : outTo f (k + 1) = outTo f k ++ [f k] := by simp [outTo, List.range_succ]
def outsL (f : Nat → Int) (N : Nat) (count : Int) : List Int × Int := (outTo f (outN f (64 * (count - 1)) 0 N).1, (outN f (64 * (count - 1)) 0 N).2)
theorem stream_nil {f : Nat → Int} {k n : Nat} (h : ([] : List (List Value)) = streamI f k n) : n = 0 := by
  cases n with
  | zero => rfl
  | succ n => cases h
theorem fin_2l {c : RCode} {n a b : Nat} {R : Value → AHeap → Prop} {e : Env} {H : AHeap} {u w : Value} (h1 : loadR (e.getD a undef) H = some (u, H)) (h2 : loadR (e.getD b undef) H = some (w, H)) (h : R (.tuple #[u, w]) H) :
    Fin ⟨c, n, [.load a, .load b]⟩ R .ret e H := by
  refine ⟨.inr rfl, _, ?_, h⟩
  unfold loadR at h1 h2
  split at h1
  · rename_i id off hp
    simp only [Option.map_eq_some_iff, Prod.mk.injEq, and_true] at h1
    obtain ⟨us, h3, rfl⟩ := h1
    split at h2
    · rename_i id' off' hp'
      simp only [Option.map_eq_some_iff, Prod.mk.injEq, and_true] at h2
      obtain ⟨us', h4, rfl⟩ := h2
      simp only [resultA, List.mapM_cons, resA, hp, h3, hp', h4, Option.map_some, List.mapM_nil]
      rfl
    · cases h2
  · cases h1

section
variable {H : AHeap} {kind deg num den step : Int} {l : List (Int × Int)} {v : Value}
theorem positionsR_c (hl : Pairs H l v) (h0 : kind = 0) : ACall Go.Proofs.Tryd.prog 132 [rulesV kind deg num den step v] H fun w H' =>
    w = .func (.func 146) #[] #[.pointer (some ⟨H.length, 0, none⟩)] ∧ H' = H ++ [.cells true 0 (rulesC kind deg num den step v)] := by
  (refine a132 ?_; simp only [n132, List.replicate, List.length_cons, List.length_nil, List.cons_append, List.nil_append]; first | refine q1 ?_ | refine q2 ?_ | refine q6 ?_ | refine q7 ?_ | refine qh rfl ?_ | skip)
  have g0 : (H ++ [AObj.cells true 0 (rulesC kind deg num den step v)])[H.length]? = some (.cells true 0 (rulesC kind deg num den step v)) := at_new
  have hk : loadR (.pointer (some ⟨H.length, 0, none⟩)) (H ++ [AObj.cells true 0 (rulesC kind deg num den step v)]) = some (.int .i64 kind, H ++ [AObj.cells true 0 (rulesC kind deg num den step v)]) := by rw [load_at g0]; rfl
  ((repeat (first | refine ya (by (with_reducible constructor) <;> first | rfl | decide) ?_ | apply yb | refine yc rfl ?_ | ((first | apply yd | apply ye); simp (disch := first | exact List.all_nil | omega | (simp only [go_sem]; done) | (simp only [ln, List.length_map]; omega) | (repeat' first | assumption | exact Ext.refl _ | refine Ext.app ?_ _)) only [go_sem, box_rules hl.atom, hk, dec_t h0]; with_reducible rfl))))
  refine cond_t rfl ?_
  ((repeat (first | refine ya (by (with_reducible constructor) <;> first | rfl | decide) ?_ | apply yb | refine yc rfl ?_ | ((first | apply yd | apply ye); simp (disch := first | exact List.all_nil | omega | (simp only [go_sem]; done) | (simp only [ln, List.length_map]; omega) | (repeat' first | assumption | exact Ext.refl _ | refine Ext.app ?_ _)) only [go_sem]; with_reducible rfl))))
  refine fin_1 ⟨?_, rfl⟩
  simp [go_sem]
theorem positionsC_c (hl : Pairs H l v) (h0 : ¬ kind = 0) : ACall Go.Proofs.Tryd.prog 132 [rulesV kind deg num den step v] H fun w H' =>
    w = .func (.func 147) #[] #[.pointer (some ⟨H.length + 1, 0, none⟩), .pointer (some ⟨H.length, 0, none⟩)] ∧ H' = H ++ [.cells true 0 (rulesC kind deg num den step v)] ++ [.cells true 0 [v]] := by
  (refine a132 ?_; simp only [n132, List.replicate, List.length_cons, List.length_nil, List.cons_append, List.nil_append]; first | refine q1 ?_ | refine q2 ?_ | refine q6 ?_ | refine q7 ?_ | refine qh rfl ?_ | skip)
  have g0 : (H ++ [AObj.cells true 0 (rulesC kind deg num den step v)])[H.length]? = some (.cells true 0 (rulesC kind deg num den step v)) := at_new
  have lG : (H ++ [AObj.cells true 0 (rulesC kind deg num den step v)]).length = H.length + 1 := by simp
  have hk : loadR (.pointer (some ⟨H.length, 0, none⟩)) (H ++ [AObj.cells true 0 (rulesC kind deg num den step v)]) = some (.int .i64 kind, H ++ [AObj.cells true 0 (rulesC kind deg num den step v)]) := by rw [load_at g0]; rfl
  have hm : loadR (.pointer (some ⟨H.length, 5, none⟩)) (H ++ [AObj.cells true 0 (rulesC kind deg num den step v)]) = some (v, H ++ [AObj.cells true 0 (rulesC kind deg num den step v)]) := by rw [load_at g0]; rfl
  ((repeat (first | refine ya (by (with_reducible constructor) <;> first | rfl | decide) ?_ | apply yb | refine yc rfl ?_ | ((first | apply yd | apply ye); simp (disch := first | exact List.all_nil | omega | (simp only [go_sem]; done) | (simp only [ln, List.length_map]; omega) | (repeat' first | assumption | exact Ext.refl _ | refine Ext.app ?_ _)) only [go_sem, box_rules hl.atom, hk, dec_f h0]; with_reducible rfl))))
  refine cond_f rfl ?_
  generalize (H ++ [AObj.cells true 0 (rulesC kind deg num den step v)] : AHeap) = G at g0 lG hm ⊢
  have hst : storeR 1 (.pointer (some ⟨G.length, 0, none⟩)) v (G ++ [AObj.cells true 0 [.slice none 0 0]]) = some (undef, G ++ [AObj.cells true 0 [v]]) := by
    have hc : v.cells = ⟨[v]⟩ := by rcases hl.2 with ⟨rfl, _⟩ | ⟨id, off, c, rfl, _⟩ <;> rfl
    rw [store_b1 (at_new : (G ++ [AObj.cells true 0 [.slice none 0 0]])[G.length]? = _) hl.atom hc]
    simp
  ((repeat (first | refine ya (by (with_reducible constructor) <;> first | rfl | decide) ?_ | apply yb | refine yc rfl ?_ | ((first | apply yd | apply ye); simp (disch := first | exact List.all_nil | omega | (simp only [go_sem]; done) | (simp only [ln, List.length_map]; omega) | (repeat' first | assumption | exact Ext.refl _ | refine Ext.app ?_ _)) only [go_sem, hm, hst]; with_reducible rfl))))
  refine fin_1 ⟨?_, rfl⟩
  simp [go_sem, lG]

set_option maxHeartbeats 8000000 in
theorem outputsR_c {count : Int} (hl : Pairs H l v) (h0 : kind = 0) (hn : 1 ≤ num ∧ num ≤ 1000) (hd : 1 ≤ den ∧ den ≤ 1000) (hcnt : 0 ≤ count ∧ count ≤ 400) : ACall Go.Proofs.Tryd.prog 90 [rulesV kind deg num den step v, .int .i64 count] H
    (IntsRes H (outsL (ratioF num den) (2001) count).1 (outsL (ratioF num den) (2001) count).2) := by
  refine ACall.intsE ?_
  (refine a90 ?_; simp only [n90, List.replicate, List.length_cons, List.length_nil, List.cons_append, List.nil_append]; first | refine q1 ?_ | refine q2 ?_ | refine q6 ?_ | refine q7 ?_ | refine qh rfl ?_ | skip)
  have hbi : ∀ J : AHeap, boxR (.int .i64 count) J = some (.pointer (some ⟨J.length, 0, none⟩), J ++ [.cells true 0 [.int .i64 count]]) := fun J => rfl
  obtain ⟨G, hG⟩ : ∃ G, G = H ++ [AObj.cells true 0 (rulesC kind deg num den step v)] ++ [AObj.cells true 0 [.int .i64 count]] ++ [AObj.cells true 0 [.slice none 0 0]] ++ [AObj.cells true 0 [.int .i64 0]] := ⟨_, rfl⟩
  have g0 : G[H.length]? = some (.cells true 0 (rulesC kind deg num den step v)) := by rw [hG]; simp
  have g1 : G[H.length + 1]? = some (.cells true 0 [.int .i64 count]) := by rw [hG]; simp
  have g2 : G[H.length + 2]? = some (.cells true 0 [.slice none 0 0]) := by rw [hG]; simp
  have g3 : G[H.length + 3]? = some (.cells true 0 [.int .i64 0]) := by rw [hG]; simp
  have xG : Ext H G := by rw [hG]; exact ((((Ext.refl H).app _).app _).app _).app _
  have lG : G.length = H.length + 4 := by rw [hG]; simp
  (repeat (first | refine ya (by (with_reducible constructor) <;> first | rfl | decide) ?_ | (apply yd; simp (disch := first | exact List.all_nil | omega | (simp only [go_sem]; done) | (simp only [ln, List.length_map]; omega) | (repeat' first | assumption | exact Ext.refl _ | refine Ext.app ?_ _)) only [go_sem, box_rules hl.atom, hbi]; with_reducible rfl)))
  (simp only [List.length_append, List.length_cons, List.length_nil, Nat.zero_add, Nat.add_assoc, Nat.reduceAdd])
  rw [← hG]
  clear hG
  obtain ⟨f, hf⟩ : ∃ f, f = ratioF num den := ⟨_, rfl⟩
  obtain ⟨N, hN⟩ : ∃ N, N = 2001 := ⟨_, rfl⟩
  obtain ⟨B, hB⟩ : ∃ B, 64 * (count - 1) = B := ⟨_, rfl⟩
  have ho : outsL (ratioF num den) (2001) count = (outTo f (outN f B 0 N).1, (outN f B 0 N).2) := by unfold outsL; rw [hf, hN, hB]
  rw [ho]
  have z0 := at_app (N := [AObj.cells true 0 [.slice none 0 0]]) g0
  have z4 : (G ++ [AObj.cells true 0 [.slice none 0 0]])[H.length + 4]? = some (.cells true 0 [.slice none 0 0]) := by rw [← lG]; exact at_new
  have x1 := (Ext.refl G).app [AObj.cells true 0 [.slice none 0 0]]
  have l1 : (G ++ [AObj.cells true 0 [.slice none 0 0]]).length = G.length + 1 := by simp
  have l6 : loadNR 6 (.pointer (some ⟨H.length, 0, none⟩)) (G ++ [AObj.cells true 0 [.slice none 0 0]]) = some (rulesV kind deg num den step v, G ++ [AObj.cells true 0 [.slice none 0 0]]) := loadN_at z0 (by simp [rulesC])
  ((repeat (first | refine ya (by (with_reducible constructor) <;> first | rfl | decide) ?_ | apply yb | refine yc rfl ?_ | ((first | apply yd | apply ye); simp (disch := first | exact List.all_nil | omega | (simp only [go_sem]; done) | (simp only [ln, List.length_map]; omega) | (repeat' first | assumption | exact Ext.refl _ | refine Ext.app ?_ _)) only [go_sem, l6]; with_reducible rfl))))
  generalize (G ++ [AObj.cells true 0 [.slice none 0 0]] : AHeap) = G1 at z0 z4 x1 l1 l6
  refine aops_call ((positionsR_c (hl.ext (xG.trans x1)) h0).mono fun v1 G3 ⟨e1, e2⟩ => ?_)
  subst e1
  have x3 : Ext G1 G3 := by rw [e2]; exact (Ext.refl _).app _
  have kr : G3[G1.length]? = some (.cells true 0 (rulesC kind deg num den step v)) := by rw [e2]; exact at_new
  clear e2
  have xG3 := x1.trans x3
  have xH3 := xG.trans xG3
  have k1 := xG3.cell g1
  have k2 := xG3.cell g2
  have k3 := xG3.cell g3
  have k4 := x3.cell z4
  have l3 := x3.len
  (repeat (first | refine ya (by (with_reducible constructor) <;> first | rfl | decide) ?_ | apply yb | refine yc rfl ?_))
  refine awp_rangeX mo rfl (fun l h => by cases h) (positions1_c (kind := kind) (deg := deg) (step := step) (v := v) (idr := G1.length) hn hd)
    (fun rest H' => ∃ k ov, rest = streamI (ratioF num den) k ((2001) - k) ∧ k ≤ (2001) ∧ k ≤ 2000 ∧ outN f B 0 N = outN f B k (N - k) ∧ BoxI (H.length + 4) G3 (outTo f k) ov H')
    (fun x H' => (x = .exit 0 ∧ ∃ ov, BoxI (H.length + 4) G3 (outTo f (outN f B 0 N).1) ov H' ∧ (outN f B 0 N).2 = 0) ∨
      (x = .ret ∧ outN f B 0 N = (0, 8) ∧ H'[H.length + 2]? = some (.cells true 0 [.slice none 0 0]) ∧ H'[H.length + 3]? = some (.cells true 0 [.int .i64 8]) ∧ Ext H H')) ?_ ?_ ?_ ?_ ?_ ?_ ?_ ?_ ?_
  · rintro rest H' c' ⟨k, ov, h1, h2, h3, h4, h5⟩
    exact ⟨k, ov, h1, h2, h3, h4, h5.set (by omega) _⟩
  · rintro x H' c' (⟨h1, ov, h2, h3⟩ | ⟨h1, h2, h3, h4, h5⟩)
    · exact .inl ⟨h1, ov, h2.set (by omega) _, h3⟩
    · refine .inr ⟨h1, h2, ?_, ?_, h5.set (by omega) _⟩
      · rw [List.getElem?_set_ne (by omega)]; exact h3
      · rw [List.getElem?_set_ne (by omega)]; exact h4
  · rintro rest H' ⟨k, ov, h1, h2, h3, h4, h5⟩
    exact h5.keeps.get kr (by omega)
  · rintro rest H' N' ⟨k, ov, h1, h2, h3, h4, h5⟩
    exact ⟨k, ov, h1, h2, h3, h4, h5.app _⟩
  · rintro hi H' ⟨k, ov, h1, h2, h3, h4, h5⟩
    have := stream_nil h1; omega
  · intro N'
    exact ⟨0, .slice none 0 0, rfl, Nat.zero_le _, Nat.zero_le _, by rw [Nat.sub_zero], Keeps.of_ext ((Ext.refl _).app _), at_app k4, OwnI.nil _ _⟩
  · rintro a rest H1 ⟨k, ov, h1, h2, h3, h4, h5⟩ hlt
    obtain ⟨n, hn⟩ : ∃ n, (2001) - k = n := ⟨_, rfl⟩
    rw [hn] at h1
    rw [show N - k = n by rw [hN]; exact hn] at h4
    match n, h1 with
    | n + 1, h1 =>
    obtain ⟨rfl, rfl⟩ := List.cons.inj h1
    rw [outN_succ] at h4
    refine ⟨rfl, fun R Rb _ hR => ?_⟩
    simp only [assignParams, List.zip_cons_cons, List.zip_nil_left, List.foldl_cons, List.foldl_nil]
    ((repeat (first | refine ya (by (with_reducible constructor) <;> first | rfl | decide) ?_ | apply yb | refine yc rfl ?_ | ((first | apply yd | apply ye); simp (disch := first | exact List.all_nil | omega | (simp only [go_sem]; done) | (simp only [ln, List.length_map]; omega) | (repeat' first | assumption | exact Ext.refl _ | refine Ext.app ?_ _)) only [go_sem]; with_reducible rfl))))
    refine ⟨rfl, hR, ?_⟩
    have hRb := get_set_self (d := Rb) hR
    have h6 := h5.set (k := H.length + 4) (by omega) Rb
    have hlb : G3.length < (H1.set G3.length Rb).length := by simpa using hlt
    generalize (H1.set G3.length Rb : AHeap) = Hb at h6 hRb hlb
    have xHb := h6.keeps.ext xH3 (by omega)
    have efk : (ratioF num den) k = f k := by rw [hf]
    rw [efk]
    have hoI := h6.own.ints
    ((repeat (first | refine ya (by (with_reducible constructor) <;> first | rfl | decide) ?_ | apply yb | refine yc rfl ?_ | ((first | apply yd | apply ye); simp (disch := first | exact List.all_nil | omega | (simp only [go_sem]; done) | (simp only [ln, List.length_map]; omega) | (repeat' first | assumption | exact Ext.refl _ | refine Ext.app ?_ _)) only [go_sem, load_at (h6.keeps.get k1 (by omega)), hB]; with_reducible rfl))))
    refine cond_p rfl (fun hq => ?_) (fun hq => ?_)
    · rw [if_pos hq] at h4
      ((repeat (first | refine ya (by (with_reducible constructor) <;> first | rfl | decide) ?_ | apply yb | refine yc rfl ?_ | ((first | apply yd | apply ye); simp (disch := first | exact List.all_nil | omega | (simp only [go_sem]; done) | (simp only [ln, List.length_map]; omega) | (repeat' first | assumption | exact Ext.refl _ | refine Ext.app ?_ _)) only [go_sem]; with_reducible rfl))))
      refine rounded_x hRb (.inl ⟨rfl, ov, ?_, ?_⟩)
      · rw [h4]; exact h6
      · rw [h4]
    rw [if_neg hq] at h4
    by_cases hk : k = 2000
    · rw [if_pos hk] at h4
      have b2 := h6.keeps.get k2 (by omega)
      have b3 := h6.keeps.get k3 (by omega)
      have b3' : (Hb.set (H.length + 2) (.cells true 0 [.slice none 0 0]))[H.length + 3]? = some (.cells true 0 [.int .i64 0]) := by rw [List.getElem?_set_ne (by omega)]; exact b3
      ((repeat (first | refine ya (by (with_reducible constructor) <;> first | rfl | decide) ?_ | apply yb | refine yc rfl ?_ | ((first | apply yd | apply ye); simp (disch := first | exact List.all_nil | omega | (simp only [go_sem]; done) | (simp only [ln, List.length_map]; omega) | (repeat' first | assumption | exact Ext.refl _ | refine Ext.app ?_ _)) only [go_sem, hoI.len, hoI.idx, hoI.load, load_at h6.box, outTo_len, dec_t (show ((k : Nat) : Int) = 2000 by omega)]; with_reducible rfl))))
      refine cond_t rfl ?_
      ((repeat (first | refine ya (by (with_reducible constructor) <;> first | rfl | decide) ?_ | apply yb | refine yc rfl ?_ | ((first | apply yd | apply ye); simp (disch := first | exact List.all_nil | omega | (simp only [go_sem]; done) | (simp only [ln, List.length_map]; omega) | (repeat' first | assumption | exact Ext.refl _ | refine Ext.app ?_ _)) only [go_sem, store_b1 b2 (y := .slice none 0 0) rfl rfl, store_b1 b3' (y := .int .i64 8) rfl rfl]; with_reducible rfl))))
      refine rounded_r ?_ (.inr ⟨rfl, h4, ?_, get_set_self b3', (xHb.set (by omega) _).set (by omega) _⟩)
      · rw [List.getElem?_set_ne (by omega), List.getElem?_set_ne (by omega)]; exact hRb
      · rw [List.getElem?_set_ne (by omega)]; exact get_set_self b2
    · rw [if_neg hk] at h4
      obtain ⟨s1, s2, s3⟩ := h6.push (by omega) hlb (f k) hRb
      have hpush := h6.own.push (by rw [outTo_len]; omega) (f k)
      ((repeat (first | refine ya (by (with_reducible constructor) <;> first | rfl | decide) ?_ | apply yb | refine yc rfl ?_ | ((first | apply yd | apply ye); simp (disch := first | exact List.all_nil | omega | (simp only [go_sem]; done) | (simp only [ln, List.length_map]; omega) | (repeat' first | assumption | exact Ext.refl _ | refine Ext.app ?_ _)) only [go_sem, hoI.len, hoI.idx, hoI.load, load_at h6.box, outTo_len, dec_f (show ¬ ((k : Nat) : Int) = 2000 by omega)]; with_reducible rfl))))
      refine cond_f rfl ?_
      ((repeat (first | refine ya (by (with_reducible constructor) <;> first | rfl | decide) ?_ | apply yb | refine yc rfl ?_ | ((first | apply yd | apply ye); simp (disch := first | exact List.all_nil | omega | (simp only [go_sem]; done) | (simp only [ln, List.length_map]; omega) | (repeat' first | assumption | exact Ext.refl _ | refine Ext.app ?_ _)) only [go_sem, load_at h6.box, hpush, s1]; with_reducible rfl))))
      refine rounded_n s3 ⟨k + 1, pushV Hb (outTo f k).length, ?_, by omega, by omega, ?_, ?_⟩
      · rw [show (2001) - (k + 1) = n by omega]
      · rw [h4, show N - (k + 1) = n by rw [hN]; omega]
      · rw [outTo_succ]; exact s2
  · rintro H' ⟨k, ov, h1, h2, h3, h4, h5⟩
    have h0 := stream_nil h1
    rw [show N - k = 0 by rw [hN]; exact h0] at h4
    have e1 : outN f B 0 N = (k, 0) := h4
    rw [e1]
    have b2 := h5.keeps.get k2 (by omega)
    have b3 := h5.keeps.get k3 (by omega)
    have xH' := h5.keeps.ext xH3 (by omega)
    have hov : ov.cells = ⟨[ov]⟩ := by rcases h5.own.ints.2 with ⟨rfl, _⟩ | ⟨id, off, c, rfl, _⟩ <;> rfl
    have b3' : (H'.set (H.length + 2) (.cells true 0 [ov]))[H.length + 3]? = some (.cells true 0 [.int .i64 0]) := by rw [List.getElem?_set_ne (by omega)]; exact b3
    ((repeat (first | refine ya (by (with_reducible constructor) <;> first | rfl | decide) ?_ | apply yb | refine yc rfl ?_ | ((first | apply yd | apply ye); simp (disch := first | exact List.all_nil | omega | (simp only [go_sem]; done) | (simp only [ln, List.length_map]; omega) | (repeat' first | assumption | exact Ext.refl _ | refine Ext.app ?_ _)) only [go_sem, load_at h5.box, store_b1 b2 h5.own.ints.atom hov, store_b1 b3' (y := .int .i64 0) rfl rfl]; with_reducible rfl))))
    refine fin_2l (u := ov) (w := .int .i64 0) (load1 (by rw [List.getElem?_set_ne (by omega)]; exact get_set_self b2)) (load1 (get_set_self b3')) ⟨ov, rfl, (xH'.set (by omega) _).set (by omega) _, ?_⟩
    exact ((h5.own.set_ne (h5.own.aside (by simp; omega)) _).set_ne (h5.own.aside (by simp; omega)) _).weaken (by simp; omega)
  · rintro x H' hx (⟨rfl, ov, h5, h6⟩ | ⟨rfl, h2, h3, h4, h5⟩)
    · have b2 := h5.keeps.get k2 (by omega)
      have b3 := h5.keeps.get k3 (by omega)
      have xH' := h5.keeps.ext xH3 (by omega)
      have hov : ov.cells = ⟨[ov]⟩ := by rcases h5.own.ints.2 with ⟨rfl, _⟩ | ⟨id, off, c, rfl, _⟩ <;> rfl
      have b3' : (H'.set (H.length + 2) (.cells true 0 [ov]))[H.length + 3]? = some (.cells true 0 [.int .i64 0]) := by rw [List.getElem?_set_ne (by omega)]; exact b3
      rw [h6]
      ((repeat (first | refine ya (by (with_reducible constructor) <;> first | rfl | decide) ?_ | apply yb | refine yc rfl ?_ | ((first | apply yd | apply ye); simp (disch := first | exact List.all_nil | omega | (simp only [go_sem]; done) | (simp only [ln, List.length_map]; omega) | (repeat' first | assumption | exact Ext.refl _ | refine Ext.app ?_ _)) only [go_sem, load_at h5.box, store_b1 b2 h5.own.ints.atom hov, store_b1 b3' (y := .int .i64 0) rfl rfl]; with_reducible rfl))))
      refine fin_2l (u := ov) (w := .int .i64 0) (load1 (by rw [List.getElem?_set_ne (by omega)]; exact get_set_self b2)) (load1 (get_set_self b3')) ⟨ov, rfl, (xH'.set (by omega) _).set (by omega) _, ?_⟩
      exact ((h5.own.set_ne (h5.own.aside (by simp; omega)) _).set_ne (h5.own.aside (by simp; omega)) _).weaken (by simp; omega)
    · rw [h2]
      ((repeat (first | refine ya (by (with_reducible constructor) <;> first | rfl | decide) ?_ | apply yb | refine yc rfl ?_ | ((first | apply yd | apply ye); simp (disch := first | exact List.all_nil | omega | (simp only [go_sem]; done) | (simp only [ln, List.length_map]; omega) | (repeat' first | assumption | exact Ext.refl _ | refine Ext.app ?_ _)) only [go_sem]; with_reducible rfl))))
      refine fin_2l (u := .slice none 0 0) (w := .int .i64 8) (load1 h3) (load1 h4) ⟨_, rfl, h5, OwnI.nil _ _⟩

set_option maxHeartbeats 8000000 in
theorem outputsC_c {count : Int} (hl : Pairs H l v) (h0 : ¬ kind = 0) (hok : MapOk l) (hs : 1 ≤ step ∧ step ≤ 1000000000000) (hcnt : 0 ≤ count ∧ count ≤ 400) : ACall Go.Proofs.Tryd.prog 90 [rulesV kind deg num den step v, .int .i64 count] H
    (IntsRes H (outsL (curveF l step) (curveN l step) count).1 (outsL (curveF l step) (curveN l step) count).2) := by
  refine ACall.intsE ?_
  (refine a90 ?_; simp only [n90, List.replicate, List.length_cons, List.length_nil, List.cons_append, List.nil_append]; first | refine q1 ?_ | refine q2 ?_ | refine q6 ?_ | refine q7 ?_ | refine qh rfl ?_ | skip)
  have hbi : ∀ J : AHeap, boxR (.int .i64 count) J = some (.pointer (some ⟨J.length, 0, none⟩), J ++ [.cells true 0 [.int .i64 count]]) := fun J => rfl
  obtain ⟨G, hG⟩ : ∃ G, G = H ++ [AObj.cells true 0 (rulesC kind deg num den step v)] ++ [AObj.cells true 0 [.int .i64 count]] ++ [AObj.cells true 0 [.slice none 0 0]] ++ [AObj.cells true 0 [.int .i64 0]] := ⟨_, rfl⟩
  have g0 : G[H.length]? = some (.cells true 0 (rulesC kind deg num den step v)) := by rw [hG]; simp
  have g1 : G[H.length + 1]? = some (.cells true 0 [.int .i64 count]) := by rw [hG]; simp
  have g2 : G[H.length + 2]? = some (.cells true 0 [.slice none 0 0]) := by rw [hG]; simp
  have g3 : G[H.length + 3]? = some (.cells true 0 [.int .i64 0]) := by rw [hG]; simp
  have xG : Ext H G := by rw [hG]; exact ((((Ext.refl H).app _).app _).app _).app _
  have lG : G.length = H.length + 4 := by rw [hG]; simp
  (repeat (first | refine ya (by (with_reducible constructor) <;> first | rfl | decide) ?_ | (apply yd; simp (disch := first | exact List.all_nil | omega | (simp only [go_sem]; done) | (simp only [ln, List.length_map]; omega) | (repeat' first | assumption | exact Ext.refl _ | refine Ext.app ?_ _)) only [go_sem, box_rules hl.atom, hbi]; with_reducible rfl)))
  (simp only [List.length_append, List.length_cons, List.length_nil, Nat.zero_add, Nat.add_assoc, Nat.reduceAdd])
  rw [← hG]
  clear hG
  obtain ⟨f, hf⟩ : ∃ f, f = curveF l step := ⟨_, rfl⟩
  obtain ⟨N, hN⟩ : ∃ N, N = curveN l step := ⟨_, rfl⟩
  obtain ⟨B, hB⟩ : ∃ B, 64 * (count - 1) = B := ⟨_, rfl⟩
  have ho : outsL (curveF l step) (curveN l step) count = (outTo f (outN f B 0 N).1, (outN f B 0 N).2) := by unfold outsL; rw [hf, hN, hB]
  rw [ho]
  have z0 := at_app (N := [AObj.cells true 0 [.slice none 0 0]]) g0
  have z4 : (G ++ [AObj.cells true 0 [.slice none 0 0]])[H.length + 4]? = some (.cells true 0 [.slice none 0 0]) := by rw [← lG]; exact at_new
  have x1 := (Ext.refl G).app [AObj.cells true 0 [.slice none 0 0]]
  have l1 : (G ++ [AObj.cells true 0 [.slice none 0 0]]).length = G.length + 1 := by simp
  have l6 : loadNR 6 (.pointer (some ⟨H.length, 0, none⟩)) (G ++ [AObj.cells true 0 [.slice none 0 0]]) = some (rulesV kind deg num den step v, G ++ [AObj.cells true 0 [.slice none 0 0]]) := loadN_at z0 (by simp [rulesC])
  ((repeat (first | refine ya (by (with_reducible constructor) <;> first | rfl | decide) ?_ | apply yb | refine yc rfl ?_ | ((first | apply yd | apply ye); simp (disch := first | exact List.all_nil | omega | (simp only [go_sem]; done) | (simp only [ln, List.length_map]; omega) | (repeat' first | assumption | exact Ext.refl _ | refine Ext.app ?_ _)) only [go_sem, l6]; with_reducible rfl))))
  generalize (G ++ [AObj.cells true 0 [.slice none 0 0]] : AHeap) = G1 at z0 z4 x1 l1 l6
  refine aops_call ((positionsC_c (hl.ext (xG.trans x1)) h0).mono fun v1 G3 ⟨e1, e2⟩ => ?_)
  subst e1
  have x3 : Ext G1 G3 := by rw [e2]; exact ((Ext.refl _).app _).app _
  have kr : G3[G1.length]? = some (.cells true 0 (rulesC kind deg num den step v)) := by rw [e2]; simp
  have kn : G3[G1.length + 1]? = some (.cells true 0 [v]) := by rw [e2]; simp
  clear e2
  have xG3 := x1.trans x3
  have xH3 := xG.trans xG3
  have k1 := xG3.cell g1
  have k2 := xG3.cell g2
  have k3 := xG3.cell g3
  have k4 := x3.cell z4
  have l3 := x3.len
  (repeat (first | refine ya (by (with_reducible constructor) <;> first | rfl | decide) ?_ | apply yb | refine yc rfl ?_))
  refine awp_rangeX mo rfl (fun l h => by cases h) (positions2_c (kind := kind) (deg := deg) (num := num) (den := den) (v := v) (idn := G1.length + 1) (idr := G1.length) hok hs)
    (fun rest H' => ∃ k ov, rest = streamI (curveF l step) k ((curveN l step) - k) ∧ k ≤ (curveN l step) ∧ k ≤ 2000 ∧ outN f B 0 N = outN f B k (N - k) ∧ BoxI (H.length + 4) G3 (outTo f k) ov H')
    (fun x H' => (x = .exit 0 ∧ ∃ ov, BoxI (H.length + 4) G3 (outTo f (outN f B 0 N).1) ov H' ∧ (outN f B 0 N).2 = 0) ∨
      (x = .ret ∧ outN f B 0 N = (0, 8) ∧ H'[H.length + 2]? = some (.cells true 0 [.slice none 0 0]) ∧ H'[H.length + 3]? = some (.cells true 0 [.int .i64 8]) ∧ Ext H H')) ?_ ?_ ?_ ?_ ?_ ?_ ?_ ?_ ?_
  · rintro rest H' c' ⟨k, ov, h1, h2, h3, h4, h5⟩
    exact ⟨k, ov, h1, h2, h3, h4, h5.set (by omega) _⟩
  · rintro x H' c' (⟨h1, ov, h2, h3⟩ | ⟨h1, h2, h3, h4, h5⟩)
    · exact .inl ⟨h1, ov, h2.set (by omega) _, h3⟩
    · refine .inr ⟨h1, h2, ?_, ?_, h5.set (by omega) _⟩
      · rw [List.getElem?_set_ne (by omega)]; exact h3
      · rw [List.getElem?_set_ne (by omega)]; exact h4
  · rintro rest H' ⟨k, ov, h1, h2, h3, h4, h5⟩
    exact ⟨h5.keeps.get kn (by omega), h5.keeps.get kr (by omega), hl.ext (h5.keeps.ext xH3 (by omega))⟩
  · rintro rest H' N' ⟨k, ov, h1, h2, h3, h4, h5⟩
    exact ⟨k, ov, h1, h2, h3, h4, h5.app _⟩
  · rintro hi H' ⟨k, ov, h1, h2, h3, h4, h5⟩
    cases hi
  · intro N'
    exact ⟨0, .slice none 0 0, rfl, Nat.zero_le _, Nat.zero_le _, by rw [Nat.sub_zero], Keeps.of_ext ((Ext.refl _).app _), at_app k4, OwnI.nil _ _⟩
  · rintro a rest H1 ⟨k, ov, h1, h2, h3, h4, h5⟩ hlt
    obtain ⟨n, hn⟩ : ∃ n, (curveN l step) - k = n := ⟨_, rfl⟩
    rw [hn] at h1
    rw [show N - k = n by rw [hN]; exact hn] at h4
    match n, h1 with
    | n + 1, h1 =>
    obtain ⟨rfl, rfl⟩ := List.cons.inj h1
    rw [outN_succ] at h4
    refine ⟨rfl, fun R Rb _ hR => ?_⟩
    simp only [assignParams, List.zip_cons_cons, List.zip_nil_left, List.foldl_cons, List.foldl_nil]
    ((repeat (first | refine ya (by (with_reducible constructor) <;> first | rfl | decide) ?_ | apply yb | refine yc rfl ?_ | ((first | apply yd | apply ye); simp (disch := first | exact List.all_nil | omega | (simp only [go_sem]; done) | (simp only [ln, List.length_map]; omega) | (repeat' first | assumption | exact Ext.refl _ | refine Ext.app ?_ _)) only [go_sem]; with_reducible rfl))))
    refine ⟨rfl, hR, ?_⟩
    have hRb := get_set_self (d := Rb) hR
    have h6 := h5.set (k := H.length + 4) (by omega) Rb
    have hlb : G3.length < (H1.set G3.length Rb).length := by simpa using hlt
    generalize (H1.set G3.length Rb : AHeap) = Hb at h6 hRb hlb
    have xHb := h6.keeps.ext xH3 (by omega)
    have efk : (curveF l step) k = f k := by rw [hf]
    rw [efk]
    have hoI := h6.own.ints
    ((repeat (first | refine ya (by (with_reducible constructor) <;> first | rfl | decide) ?_ | apply yb | refine yc rfl ?_ | ((first | apply yd | apply ye); simp (disch := first | exact List.all_nil | omega | (simp only [go_sem]; done) | (simp only [ln, List.length_map]; omega) | (repeat' first | assumption | exact Ext.refl _ | refine Ext.app ?_ _)) only [go_sem, load_at (h6.keeps.get k1 (by omega)), hB]; with_reducible rfl))))
    refine cond_p rfl (fun hq => ?_) (fun hq => ?_)
    · rw [if_pos hq] at h4
      ((repeat (first | refine ya (by (with_reducible constructor) <;> first | rfl | decide) ?_ | apply yb | refine yc rfl ?_ | ((first | apply yd | apply ye); simp (disch := first | exact List.all_nil | omega | (simp only [go_sem]; done) | (simp only [ln, List.length_map]; omega) | (repeat' first | assumption | exact Ext.refl _ | refine Ext.app ?_ _)) only [go_sem]; with_reducible rfl))))
      refine rounded_x hRb (.inl ⟨rfl, ov, ?_, ?_⟩)
      · rw [h4]; exact h6
      · rw [h4]
    rw [if_neg hq] at h4
    by_cases hk : k = 2000
    · rw [if_pos hk] at h4
      have b2 := h6.keeps.get k2 (by omega)
      have b3 := h6.keeps.get k3 (by omega)
      have b3' : (Hb.set (H.length + 2) (.cells true 0 [.slice none 0 0]))[H.length + 3]? = some (.cells true 0 [.int .i64 0]) := by rw [List.getElem?_set_ne (by omega)]; exact b3
      ((repeat (first | refine ya (by (with_reducible constructor) <;> first | rfl | decide) ?_ | apply yb | refine yc rfl ?_ | ((first | apply yd | apply ye); simp (disch := first | exact List.all_nil | omega | (simp only [go_sem]; done) | (simp only [ln, List.length_map]; omega) | (repeat' first | assumption | exact Ext.refl _ | refine Ext.app ?_ _)) only [go_sem, hoI.len, hoI.idx, hoI.load, load_at h6.box, outTo_len, dec_t (show ((k : Nat) : Int) = 2000 by omega)]; with_reducible rfl))))
      refine cond_t rfl ?_
      ((repeat (first | refine ya (by (with_reducible constructor) <;> first | rfl | decide) ?_ | apply yb | refine yc rfl ?_ | ((first | apply yd | apply ye); simp (disch := first | exact List.all_nil | omega | (simp only [go_sem]; done) | (simp only [ln, List.length_map]; omega) | (repeat' first | assumption | exact Ext.refl _ | refine Ext.app ?_ _)) only [go_sem, store_b1 b2 (y := .slice none 0 0) rfl rfl, store_b1 b3' (y := .int .i64 8) rfl rfl]; with_reducible rfl))))
      refine rounded_r ?_ (.inr ⟨rfl, h4, ?_, get_set_self b3', (xHb.set (by omega) _).set (by omega) _⟩)
      · rw [List.getElem?_set_ne (by omega), List.getElem?_set_ne (by omega)]; exact hRb
      · rw [List.getElem?_set_ne (by omega)]; exact get_set_self b2
    · rw [if_neg hk] at h4
      obtain ⟨s1, s2, s3⟩ := h6.push (by omega) hlb (f k) hRb
      have hpush := h6.own.push (by rw [outTo_len]; omega) (f k)
      ((repeat (first | refine ya (by (with_reducible constructor) <;> first | rfl | decide) ?_ | apply yb | refine yc rfl ?_ | ((first | apply yd | apply ye); simp (disch := first | exact List.all_nil | omega | (simp only [go_sem]; done) | (simp only [ln, List.length_map]; omega) | (repeat' first | assumption | exact Ext.refl _ | refine Ext.app ?_ _)) only [go_sem, hoI.len, hoI.idx, hoI.load, load_at h6.box, outTo_len, dec_f (show ¬ ((k : Nat) : Int) = 2000 by omega)]; with_reducible rfl))))
      refine cond_f rfl ?_
      ((repeat (first | refine ya (by (with_reducible constructor) <;> first | rfl | decide) ?_ | apply yb | refine yc rfl ?_ | ((first | apply yd | apply ye); simp (disch := first | exact List.all_nil | omega | (simp only [go_sem]; done) | (simp only [ln, List.length_map]; omega) | (repeat' first | assumption | exact Ext.refl _ | refine Ext.app ?_ _)) only [go_sem, load_at h6.box, hpush, s1]; with_reducible rfl))))
      refine rounded_n s3 ⟨k + 1, pushV Hb (outTo f k).length, ?_, by omega, by omega, ?_, ?_⟩
      · rw [show (curveN l step) - (k + 1) = n by omega]
      · rw [h4, show N - (k + 1) = n by rw [hN]; omega]
      · rw [outTo_succ]; exact s2
  · rintro H' ⟨k, ov, h1, h2, h3, h4, h5⟩
    have h0 := stream_nil h1
    rw [show N - k = 0 by rw [hN]; exact h0] at h4
    have e1 : outN f B 0 N = (k, 0) := h4
    rw [e1]
    have b2 := h5.keeps.get k2 (by omega)
    have b3 := h5.keeps.get k3 (by omega)
    have xH' := h5.keeps.ext xH3 (by omega)
    have hov : ov.cells = ⟨[ov]⟩ := by rcases h5.own.ints.2 with ⟨rfl, _⟩ | ⟨id, off, c, rfl, _⟩ <;> rfl
    have b3' : (H'.set (H.length + 2) (.cells true 0 [ov]))[H.length + 3]? = some (.cells true 0 [.int .i64 0]) := by rw [List.getElem?_set_ne (by omega)]; exact b3
    ((repeat (first | refine ya (by (with_reducible constructor) <;> first | rfl | decide) ?_ | apply yb | refine yc rfl ?_ | ((first | apply yd | apply ye); simp (disch := first | exact List.all_nil | omega | (simp only [go_sem]; done) | (simp only [ln, List.length_map]; omega) | (repeat' first | assumption | exact Ext.refl _ | refine Ext.app ?_ _)) only [go_sem, load_at h5.box, store_b1 b2 h5.own.ints.atom hov, store_b1 b3' (y := .int .i64 0) rfl rfl]; with_reducible rfl))))
    refine fin_2l (u := ov) (w := .int .i64 0) (load1 (by rw [List.getElem?_set_ne (by omega)]; exact get_set_self b2)) (load1 (get_set_self b3')) ⟨ov, rfl, (xH'.set (by omega) _).set (by omega) _, ?_⟩
    exact ((h5.own.set_ne (h5.own.aside (by simp; omega)) _).set_ne (h5.own.aside (by simp; omega)) _).weaken (by simp; omega)
  · rintro x H' hx (⟨rfl, ov, h5, h6⟩ | ⟨rfl, h2, h3, h4, h5⟩)
    · have b2 := h5.keeps.get k2 (by omega)
      have b3 := h5.keeps.get k3 (by omega)
      have xH' := h5.keeps.ext xH3 (by omega)
      have hov : ov.cells = ⟨[ov]⟩ := by rcases h5.own.ints.2 with ⟨rfl, _⟩ | ⟨id, off, c, rfl, _⟩ <;> rfl
      have b3' : (H'.set (H.length + 2) (.cells true 0 [ov]))[H.length + 3]? = some (.cells true 0 [.int .i64 0]) := by rw [List.getElem?_set_ne (by omega)]; exact b3
      rw [h6]
      ((repeat (first | refine ya (by (with_reducible constructor) <;> first | rfl | decide) ?_ | apply yb | refine yc rfl ?_ | ((first | apply yd | apply ye); simp (disch := first | exact List.all_nil | omega | (simp only [go_sem]; done) | (simp only [ln, List.length_map]; omega) | (repeat' first | assumption | exact Ext.refl _ | refine Ext.app ?_ _)) only [go_sem, load_at h5.box, store_b1 b2 h5.own.ints.atom hov, store_b1 b3' (y := .int .i64 0) rfl rfl]; with_reducible rfl))))
      refine fin_2l (u := ov) (w := .int .i64 0) (load1 (by rw [List.getElem?_set_ne (by omega)]; exact get_set_self b2)) (load1 (get_set_self b3')) ⟨ov, rfl, (xH'.set (by omega) _).set (by omega) _, ?_⟩
      exact ((h5.own.set_ne (h5.own.aside (by simp; omega)) _).set_ne (h5.own.aside (by simp; omega)) _).weaken (by simp; omega)
    · rw [h2]
      ((repeat (first | refine ya (by (with_reducible constructor) <;> first | rfl | decide) ?_ | apply yb | refine yc rfl ?_ | ((first | apply yd | apply ye); simp (disch := first | exact List.all_nil | omega | (simp only [go_sem]; done) | (simp only [ln, List.length_map]; omega) | (repeat' first | assumption | exact Ext.refl _ | refine Ext.app ?_ _)) only [go_sem]; with_reducible rfl))))
      refine fin_2l (u := .slice none 0 0) (w := .int .i64 8) (load1 h3) (load1 h4) ⟨_, rfl, h5, OwnI.nil _ _⟩
end
end Go.Lq

namespace Go.Lq
open Go
open Go.Proofs

def outF (kind num den step : Int) (l : List (Int × Int)) : Nat → Int := if kind = 0 then ratioF num den else curveF l step
def outC (kind step : Int) (l : List (Int × Int)) : Nat := if kind = 0 then 2001 else curveN l step
def outsR (kind num den step : Int) (l : List (Int × Int)) (count : Int) : List Int × Int := outsL (outF kind num den step l) (outC kind step l) count
theorem rules_ratio {kind deg num den step : Int} {l : List (Int × Int)} (h : rulesErrL kind deg num den step l = 0) (h0 : kind = 0) : (1 ≤ num ∧ num ≤ 1000) ∧ (1 ≤ den ∧ den ≤ 1000) ∧ (deg = 1 ∨ deg = 3) := by
  unfold rulesErrL at h
  by_cases hk : 0 ≤ kind ∧ kind ≤ 1
  · rw [if_pos hk] at h
    by_cases hd : degErrL deg = 0
    · rw [if_pos hd, if_pos h0] at h
      unfold ratioErrL at h
      by_cases hn : (1 ≤ num ∧ num ≤ 1000) ∧ (1 ≤ den ∧ den ≤ 1000)
      · exact ⟨hn.1, hn.2, degErr_ok hd⟩
      · rw [if_neg hn] at h; exact absurd h (by simp [firstErr])
    · rw [if_neg hd] at h; exact absurd h hd
  · rw [if_neg hk] at h; exact absurd h (by decide)
theorem rules_curve {kind deg num den step : Int} {l : List (Int × Int)} (h : rulesErrL kind deg num den step l = 0) (h0 : ¬ kind = 0) : MapOk l ∧ (1 ≤ step ∧ step ≤ 1000000000000) ∧ (deg = 1 ∨ deg = 3) := by
  unfold rulesErrL at h
  by_cases hk : 0 ≤ kind ∧ kind ≤ 1
  · rw [if_pos hk] at h
    by_cases hd : degErrL deg = 0
    · rw [if_pos hd, if_neg h0] at h
      unfold curveErrL at h
      by_cases hm : mapErrL l = 0
      · rw [hm, firstErr_z] at h
        by_cases hs : 1 ≤ step ∧ step ≤ 1000000000000
        · exact ⟨mapErr_ok hm, hs, degErr_ok hd⟩
        · rw [if_neg hs] at h; exact absurd h (by simp [firstErr])
      · rw [firstErr_e hm] at h; exact absurd h hm
    · rw [if_neg hd] at h; exact absurd h hd
  · rw [if_neg hk] at h; exact absurd h (by decide)

section
variable {H : AHeap} {kind deg num den step : Int} {l : List (Int × Int)} {v : Value}
theorem outputs_c {count : Int} (hl : Pairs H l v) (he : rulesErrL kind deg num den step l = 0) (hcnt : 0 ≤ count ∧ count ≤ 400) : ACall Go.Proofs.Tryd.prog 90 [rulesV kind deg num den step v, .int .i64 count] H
    (IntsRes H (outsR kind num den step l count).1 (outsR kind num den step l count).2) := by
  by_cases h0 : kind = 0
  · obtain ⟨h1, h2, _⟩ := rules_ratio he h0
    have e : outsR kind num den step l count = outsL (ratioF num den) 2001 count := by unfold outsR outF outC; rw [if_pos h0, if_pos h0]
    rw [e]
    exact outputsR_c hl h0 h1 h2 hcnt
  · obtain ⟨h1, h2, _⟩ := rules_curve he h0
    have e : outsR kind num den step l count = outsL (curveF l step) (curveN l step) count := by unfold outsR outF outC; rw [if_neg h0, if_neg h0]
    rw [e]
    exact outputsC_c hl h0 h1 h2 hcnt
end
end Go.Lq


namespace Go.Lq
open Go
open Go.Proofs

def yL (deg : Int) (x : List Int) (q : Int) : Int := min (max ((2 * valueL deg x q + denL deg) / (2 * denL deg)) (-32767)) 32767
def midL (qs : List Int) (y : Int → Int) (i : Nat) : List Int := (qs.take i).map y ++ qs.drop i
theorem midL_len {qs : List Int} {y : Int → Int} {i : Nat} : (midL qs y i).length = qs.length := by
  unfold midL; simp; omega
theorem midL_zero {qs : List Int} {y : Int → Int} : midL qs y 0 = qs := by simp [midL]
theorem midL_all {qs : List Int} {y : Int → Int} : midL qs y qs.length = qs.map y := by simp [midL]
theorem midL_getD {qs : List Int} {y : Int → Int} {i : Nat} (h : i < qs.length) : (midL qs y i).getD i 0 = qs.getD i 0 := by
  unfold midL
  rw [List.getD_eq_getElem?_getD, List.getElem?_append_right (by simp; omega), List.getD_eq_getElem?_getD, List.getElem?_drop]
  have : i + (i - ((qs.take i).map y).length) = i := by simp; omega
  rw [this]
theorem midL_set {qs : List Int} {y : Int → Int} {i : Nat} (h : i < qs.length) : (midL qs y i).set i (y (qs.getD i 0)) = midL qs y (i + 1) := by
  have hl : ((qs.take i).map y).length = i := by simp; omega
  unfold midL
  rw [List.set_append_right _ _ (by omega), hl, Nat.sub_self, List.drop_eq_getElem_cons h, List.set_cons_zero]
  rw [List.take_add_one, List.getElem?_eq_getElem h, List.map_append, List.getD_eq_getElem?_getD, List.getElem?_eq_getElem h]
  simp
theorem outN_bound {f : Nat → Int} {B : Int} : ∀ {n k j : Nat}, k ≤ j → j < (outN f B k n).1 → f j ≤ B ∧ j < k + n
  | 0, k, j, h1, h2 => by have : j < k := h2; omega
  | n + 1, k, j, h1, h2 => by
    rw [outN_succ] at h2
    by_cases hq : B < f k
    · rw [if_pos hq] at h2
      have : j < k := h2
      omega
    · rw [if_neg hq] at h2
      by_cases hk : k = 2000
      · rw [if_pos hk] at h2
        have : j < 0 := h2
        omega
      · rw [if_neg hk] at h2
        by_cases e : j = k
        · subst e; exact ⟨by omega, by omega⟩
        · have := outN_bound (n := n) (k := k + 1) (j := j) (by omega) h2
          exact ⟨this.1, by omega⟩
theorem posLo_nn {p : (Int × Int) × (Int × Int)} {t : Int} (h1 : 0 ≤ p.1.1) (h2 : p.1.1 ≤ p.2.1) (h3 : p.1.2 < p.2.2) (h4 : p.1.2 ≤ t) : 0 ≤ posLo p t := by
  unfold posLo posN
  have := Int.ediv_nonneg (Int.mul_nonneg (show 0 ≤ t - p.1.2 by omega) (show 0 ≤ 64 * (p.2.1 - p.1.1) by omega)) (show 0 ≤ p.2.2 - p.1.2 by omega)
  omega
theorem atTime_in {l : List (Int × Int)} {t : Int} : ∀ {k i : Nat}, i + k + 1 < l.length → (l.getD i (0, 0)).2 ≤ t → atTime l t i k + 1 < l.length ∧ (l.getD (atTime l t i k) (0, 0)).2 ≤ t
  | 0, i, h, h2 => ⟨by show i + 1 < _; omega, h2⟩
  | k + 1, i, h, h2 => by
    rw [atTime_succ]
    split
    · exact atTime_in (by omega) (by omega)
    · exact ⟨by omega, h2⟩
theorem outs_in {kind deg num den step count : Int} {l : List (Int × Int)} (he : rulesErrL kind deg num den step l = 0) (i : Nat) (hi : i < (outsR kind num den step l count).1.length) :
    0 ≤ (outsR kind num den step l count).1.getD i 0 ∧ (outsR kind num den step l count).1.getD i 0 ≤ 64 * (count - 1) := by
  unfold outsR outsL at hi ⊢
  rw [outTo_len] at hi
  have hb := outN_bound (Nat.zero_le i) hi
  have e : (outTo (outF kind num den step l) (outN (outF kind num den step l) (64 * (count - 1)) 0 (outC kind step l)).1).getD i 0 = outF kind num den step l i := by
    unfold outTo
    rw [List.getD_eq_getElem?_getD, List.getElem?_map, List.getElem?_range hi]; rfl
  rw [e]
  refine ⟨?_, hb.1⟩
  unfold outF
  by_cases h0 : kind = 0
  · obtain ⟨h1, h2, _⟩ := rules_ratio he h0
    rw [if_pos h0]
    exact Int.ediv_nonneg (Int.mul_nonneg (by omega) (by omega)) (by omega)
  · obtain ⟨hok, hs, _⟩ := rules_curve he h0
    rw [if_neg h0]
    have hN : i < curveN l step := by have := hb.2; unfold outC at this; rw [if_neg h0] at this; omega
    rw [curveF_eq hok (by omega) hN]
    have hlo := hok.lo
    have ht := Int.mul_nonneg (show (0 : Int) ≤ i by omega) (show 0 ≤ step by omega)
    obtain ⟨a1, a2⟩ := atTime_in (l := l) (t := t0L l + i * step) (k := l.length - 2) (i := 0) (by omega) (show t0L l ≤ _ by omega)
    have p1 := hok.pos _ (show atTime l (t0L l + i * step) 0 (l.length - 2) < l.length by omega)
    have p2 := hok.posUp _ a1
    have p3 := hok.timeUp _ a1
    exact posLo_nn p1.1 (Int.le_of_lt p2) p3 a2
end Go.Lq

namespace Go.Lq
open Go
open Go.Proofs

theorem outN_two {f : Nat → Int} {B : Int} : ∀ {n k : Nat}, k ≤ 2000 → ((outN f B k n).2 = 0 ∧ (outN f B k n).1 ≤ k + n) ∨ outN f B k n = (0, 8)
  | 0, k, _ => .inl ⟨rfl, Nat.le_refl _⟩
  | n + 1, k, hk => by
    rw [outN_succ]
    split
    · exact .inl ⟨rfl, by show k ≤ _; omega⟩
    · split
      · exact .inr rfl
      · rcases outN_two (f := f) (B := B) (n := n) (k := k + 1) (by omega) with ⟨h1, h2⟩ | h
        · exact .inl ⟨h1, by omega⟩
        · exact .inr h
theorem outN_le {f : Nat → Int} {B : Int} : ∀ {n k : Nat}, k ≤ 2000 → (outN f B k n).1 ≤ 2000
  | 0, k, h => h
  | n + 1, k, hk => by
    rw [outN_succ]
    split
    · exact hk
    · split
      · exact Nat.zero_le _
      · exact outN_le (by omega)
theorem outs_two (kind num den step count : Int) (l : List (Int × Int)) : (outsR kind num den step l count).1.length ≤ 2000 ∧ ((outsR kind num den step l count).2 = 0 ∨ outsR kind num den step l count = ([], 8)) := by
  unfold outsR outsL
  refine ⟨by rw [outTo_len]; exact outN_le (Nat.zero_le _), ?_⟩
  rcases outN_two (f := outF kind num den step l) (B := 64 * (count - 1)) (n := outC kind step l) (k := 0) (by omega) with ⟨h1, _⟩ | h
  · exact .inl h1
  · exact .inr (by rw [h]; rfl)
end Go.Lq

namespace Go.Lq
open Go
open Go.Proofs

def resErrL (kind deg num den step : Int) (l : List (Int × Int)) (x : List Int) : Int := firstErr [rulesErrL kind deg num den step l, signalErrL x]
def resL (kind deg num den step : Int) (l : List (Int × Int)) (x : List Int) : List Int × Int :=
  if resErrL kind deg num den step l x = 0 then
    (if (outsR kind num den step l x.length).2 = 0 then ((outsR kind num den step l x.length).1.map (yL deg x), 0) else ([], (outsR kind num den step l x.length).2))
  else ([], resErrL kind deg num den step l x)
theorem resErr_ok {kind deg num den step : Int} {l : List (Int × Int)} {x : List Int} (h : resErrL kind deg num den step l x = 0) : rulesErrL kind deg num den step l = 0 ∧ signalErrL x = 0 := by
  unfold resErrL at h
  by_cases h1 : rulesErrL kind deg num den step l = 0
  · refine ⟨h1, ?_⟩
    rw [h1, firstErr_z] at h
    refine Decidable.byContradiction fun hn => ?_
    rw [firstErr_e hn] at h; exact hn h
  · rw [firstErr_e h1] at h; exact absurd h h1
theorem rules_deg {kind deg num den step : Int} {l : List (Int × Int)} (h : rulesErrL kind deg num den step l = 0) : deg = 1 ∨ deg = 3 := by
  by_cases h0 : kind = 0
  · exact (rules_ratio h h0).2.2
  · exact (rules_curve h h0).2.2
def kernH (G : AHeap) (m : List Int) (deg : Int) : AHeap := G ++ [.cells true 1 (m.map (.int .i64))] ++ [.cells true 0 (kern deg)]
section
variable {G : AHeap} {m : List Int} {deg : Int}
theorem kernH_s : (kernH G m deg)[G.length]? = some (.cells true 1 (m.map (.int .i64))) := by simp [kernH]
theorem kernH_k : (kernH G m deg)[G.length + 1]? = some (.cells true 0 (kern deg)) := by simp [kernH]
theorem kernH_x : Ext G (kernH G m deg) := ((Ext.refl G).app _).app _
theorem kernH_set {i : Nat} {x : Int} : (kernH G m deg).set G.length (.cells true 1 ((m.set i x).map (.int .i64))) = kernH G (m.set i x) deg := set_in
theorem kernH_ints {n : Nat} (h : m.length = n) : Ints (kernH G m deg) m (.slice (some ⟨G.length, 0, none⟩) n n) := by
  subst h
  exact ints_first (b := true) (r := []) (by rw [List.append_nil]; exact kernH_s)
theorem den_bound (deg : Int) : 0 < denL deg ∧ denL deg ≤ 1572864 := by unfold denL; split <;> omega
end

section
variable {H : AHeap} {kind deg num den step : Int} {l : List (Int × Int)} {v w : Value} {x : List Int}
set_option maxHeartbeats 8000000 in
theorem resampled_c (hx : Ext H0 H) (hl : Pairs H l v) (hb : l.length ≤ 1000000000) (hX : Ints H x w) (hxl : x.length ≤ 1000000000) : ACall Go.Proofs.Tryd.prog 23 [rulesV kind deg num den step v, w] H
    (IntsRes H (resL kind deg num den step l x).1 (resL kind deg num den step l x).2) := by
  refine ACall.intsE ?_
  (refine a23 ?_; simp only [n23, List.replicate, List.length_cons, List.length_nil, List.cons_append, List.nil_append]; first | refine q1 ?_ | refine q2 ?_ | refine q6 ?_ | refine q7 ?_ | refine qh rfl ?_ | skip)
  have g0 : (H ++ [AObj.cells true 0 (rulesC kind deg num den step v)])[H.length]? = some (.cells true 0 (rulesC kind deg num den step v)) := at_new
  have xG : Ext H (H ++ [AObj.cells true 0 (rulesC kind deg num den step v)]) := (Ext.refl H).app _
  have l6 : loadNR 6 (.pointer (some ⟨H.length, 0, none⟩)) (H ++ [AObj.cells true 0 (rulesC kind deg num den step v)]) = some (rulesV kind deg num den step v, H ++ [AObj.cells true 0 (rulesC kind deg num den step v)]) := loadN_at g0 (by simp [rulesC])
  ((repeat (first | refine ya (by (with_reducible constructor) <;> first | rfl | decide) ?_ | apply yb | refine yc rfl ?_ | ((first | apply yd | apply ye); simp (disch := first | exact List.all_nil | omega | (simp only [go_sem]; done) | (simp only [ln, List.length_map]; omega) | (repeat' first | assumption | exact Ext.refl _ | refine Ext.app ?_ _)) only [go_sem, box_rules hl.atom, l6]; with_reducible rfl))))
  generalize (H ++ [AObj.cells true 0 (rulesC kind deg num den step v)] : AHeap) = G at g0 xG l6
  refine aops_call_to (checkRules_c (hl.ext xG) hb) ?_
  ((repeat (first | refine ya (by (with_reducible constructor) <;> first | rfl | decide) ?_ | apply yb | refine yc rfl ?_ | ((first | apply yd | apply ye); simp (disch := first | exact List.all_nil | omega | (simp only [go_sem]; done) | (simp only [ln, List.length_map]; omega) | (repeat' first | assumption | exact Ext.refl _ | refine Ext.app ?_ _)) only [go_sem]; with_reducible rfl))))
  refine aops_call_to (signalErr_c (hX.ext xG) hxl) ?_
  ((repeat (first | refine ya (by (with_reducible constructor) <;> first | rfl | decide) ?_ | apply yb | refine yc rfl ?_ | ((first | apply yd | apply ye); simp (disch := first | exact List.all_nil | omega | (simp only [go_sem]; done) | (simp only [ln, List.length_map]; omega) | (repeat' first | assumption | exact Ext.refl _ | refine Ext.app ?_ _)) only [go_sem]; with_reducible rfl))))
  refine aops_call_to (first_c (l := [_, _]) (Ints.last (l := [_, _]) 2) (by simp)) ?_
  have he : firstErr [rulesErrL kind deg num den step l, signalErrL x] = resErrL kind deg num den step l x := rfl
  rw [he]
  have x2 : Ext G (G ++ [AObj.cells true 1 [.int .i64 (rulesErrL kind deg num den step l), .int .i64 (signalErrL x)]]) := (Ext.refl G).app _
  generalize (G ++ [AObj.cells true 1 [.int .i64 (rulesErrL kind deg num den step l), .int .i64 (signalErrL x)]] : AHeap) = G2 at x2
  have xH2 := xG.trans x2
  have k0 := x2.cell g0
  have k6 : loadNR 6 (.pointer (some ⟨H.length, 0, none⟩)) G2 = some (rulesV kind deg num den step v, G2) := loadN_at k0 (by simp [rulesC])
  ((repeat (first | refine ya (by (with_reducible constructor) <;> first | rfl | decide) ?_ | apply yb | refine yc rfl ?_ | ((first | apply yd | apply ye); simp (disch := first | exact List.all_nil | omega | (simp only [go_sem]; done) | (simp only [ln, List.length_map]; omega) | (repeat' first | assumption | exact Ext.refl _ | refine Ext.app ?_ _)) only [go_sem]; with_reducible rfl))))
  refine cond_p rfl (fun hne => ?_) (fun heq => ?_)
  · have ev : resL kind deg num den step l x = ([], resErrL kind deg num den step l x) := by unfold resL; rw [if_neg hne]
    rw [ev]
    ((repeat (first | refine ya (by (with_reducible constructor) <;> first | rfl | decide) ?_ | apply yb | refine yc rfl ?_ | ((first | apply yd | apply ye); simp (disch := first | exact List.all_nil | omega | (simp only [go_sem]; done) | (simp only [ln, List.length_map]; omega) | (repeat' first | assumption | exact Ext.refl _ | refine Ext.app ?_ _)) only [go_sem]; with_reducible rfl))))
    exact fin_2 ⟨_, rfl, xH2, OwnI.nil _ _⟩
  have hz := Decidable.not_not.1 heq
  obtain ⟨hr, hs⟩ := resErr_ok hz
  have hd := rules_deg hr
  obtain ⟨s1, s2⟩ := signalErr_ok hs
  have hX2 := hX.ext xH2
  ((repeat (first | refine ya (by (with_reducible constructor) <;> first | rfl | decide) ?_ | apply yb | refine yc rfl ?_ | ((first | apply yd | apply ye); simp (disch := first | exact List.all_nil | omega | (simp only [go_sem]; done) | (simp only [ln, List.length_map]; omega) | (repeat' first | assumption | exact Ext.refl _ | refine Ext.app ?_ _)) only [go_sem, hX2.len, hX2.idx, hX2.load, k6]; with_reducible rfl))))
  refine aops_call ((outputs_c (count := (x.length : Int)) (hl.ext xH2) hr ⟨by omega, by omega⟩).mono fun u G3 hu => ?_)
  obtain ⟨rfl, rfl⟩ := hu
  obtain ⟨ol, otw⟩ := outs_two kind num den step (x.length : Int) l
  have hin := outs_in (count := (x.length : Int)) hr
  have ev : resL kind deg num den step l x = if (outsR kind num den step l x.length).2 = 0 then ((outsR kind num den step l x.length).1.map (yL deg x), 0) else ([], (outsR kind num den step l x.length).2) := by unfold resL; rw [if_pos hz]
  rw [ev]
  rcases otw with h0 | h8
  rotate_left 1
  · rw [h8]
    ((repeat (first | refine ya (by (with_reducible constructor) <;> first | rfl | decide) ?_ | apply yb | refine yc rfl ?_ | ((first | apply yd | apply ye); simp (disch := first | exact List.all_nil | omega | (simp only [go_sem]; done) | (simp only [ln, List.length_map]; omega) | (repeat' first | assumption | exact Ext.refl _ | refine Ext.app ?_ _)) only [go_sem]; with_reducible rfl))))
    refine cond_t rfl ?_
    ((repeat (first | refine ya (by (with_reducible constructor) <;> first | rfl | decide) ?_ | apply yb | refine yc rfl ?_ | ((first | apply yd | apply ye); simp (disch := first | exact List.all_nil | omega | (simp only [go_sem]; done) | (simp only [ln, List.length_map]; omega) | (repeat' first | assumption | exact Ext.refl _ | refine Ext.app ?_ _)) only [go_sem]; with_reducible rfl))))
    exact fin_2 ⟨_, rfl, xH2.app _, OwnI.nil _ _⟩
  rw [h0, if_pos rfl]
  generalize (outsR kind num den step l x.length).1 = qs at ol hin ⊢
  ((repeat (first | refine ya (by (with_reducible constructor) <;> first | rfl | decide) ?_ | apply yb | refine yc rfl ?_ | ((first | apply yd | apply ye); simp (disch := first | exact List.all_nil | omega | (simp only [go_sem]; done) | (simp only [ln, List.length_map]; omega) | (repeat' first | assumption | exact Ext.refl _ | refine Ext.app ?_ _)) only [go_sem]; with_reducible rfl))))
  refine cond_f rfl ?_
  have xG3 : Ext G2 (G2 ++ retN 1 qs.length (qs.map (.int .i64))) := ⟨_, rfl⟩
  have hx3 := (hx.trans xH2).trans xG3
  have n0 := xG3.cell k0
  have hdg : loadR (.pointer (some ⟨H.length, 1, none⟩)) (G2 ++ retN 1 qs.length (qs.map (.int .i64))) = some (.int .i64 deg, G2 ++ retN 1 qs.length (qs.map (.int .i64))) := by rw [load_at n0]; rfl
  have hR : Ints (G2 ++ retN 1 qs.length (qs.map (.int .i64)) ++ [AObj.cells true 0 (kern deg)]) qs (retV G2 qs.length) := Ints.ret.ext ((Ext.refl _).app _)
  ((repeat (first | refine ya (by (with_reducible constructor) <;> first | rfl | decide) ?_ | apply yb | refine yc rfl ?_ | ((first | apply yd | apply ye); simp (disch := first | exact List.all_nil | omega | (simp only [go_sem]; done) | (simp only [ln, List.length_map]; omega) | (repeat' first | assumption | exact Ext.refl _ | refine Ext.app ?_ _)) only [go_sem, hR.len, hR.idx, hR.load, hdg, kern_idx hd, kern_load hx3 hd, store_kern]; with_reducible rfl))))
  by_cases hn : qs.length = 0
  · have hq0 : qs = [] := List.length_eq_zero_iff.1 hn
    subst hq0
    refine awp_loop_n [false, false, false, false, false, false, false, true, false, false, false, false, false, false, false, false, false, false, false, false, false, false, false, false, false, false, false, false, false, false, false, false, false, false, false, false, true, true, true, false, false, false, false, false, false, false, false, false, false, false, false, false, false, false, false, false, false, false, false, false, false, false, false] 0 (fun i e H' => H' = G2 ++ retN 1 0 [] ++ [AObj.cells true 0 (kern deg)] ∧ e = [junk, junk, junk, junk, junk, junk, junk, retV G2 0, junk, junk, junk, junk, junk, junk, junk, junk, junk, junk, junk, junk, junk, junk, junk, junk, junk, junk, junk, junk, junk, junk, junk, junk, junk, junk, junk, junk, retV G2 0, .int .i64 ((0 : Nat) : Int), .int .i64 i, junk, junk, junk, junk, junk, junk, junk, junk, junk, junk, junk, junk, junk, junk, junk, junk, junk, junk, junk, junk, junk, junk, junk, junk]) ?_ ?_
    · exact ⟨rfl, by simp [forget]⟩
    rintro i e H' hi ⟨rfl, rfl⟩
    obtain rfl : i = 0 := by omega
    ((repeat (first | refine ya (by (with_reducible constructor) <;> first | rfl | decide) ?_ | apply yb | refine yc rfl ?_ | ((first | apply yd | apply ye); simp (disch := first | exact List.all_nil | omega | (simp only [go_sem]; done) | (simp only [ln, List.length_map]; omega) | (repeat' first | assumption | exact Ext.refl _ | refine Ext.app ?_ _)) only [go_sem, dec_f (show ¬ ((0 : Nat) : Int) < ((0 : Nat) : Int) by decide)]; with_reducible rfl))))
    refine cond_f rfl ?_
    ((repeat (first | refine ya (by (with_reducible constructor) <;> first | rfl | decide) ?_ | apply yb | refine yc rfl ?_ | ((first | apply yd | apply ye); simp (disch := first | exact List.all_nil | omega | (simp only [go_sem]; done) | (simp only [ln, List.length_map]; omega) | (repeat' first | assumption | exact Ext.refl _ | refine Ext.app ?_ _)) only [go_sem]; with_reducible rfl))))
    exact fin_2 ⟨_, rfl, (xH2.app _).app _, OwnI.nil _ _⟩
  have erV : retV G2 qs.length = .slice (some ⟨G2.length, 0, none⟩) qs.length qs.length := by unfold retV; rw [if_neg hn]
  have erN : G2 ++ retN 1 qs.length (qs.map (.int .i64)) ++ [AObj.cells true 0 (kern deg)] = kernH G2 qs deg := by unfold retN kernH; rw [if_neg hn]
  have erL : (G2 ++ retN 1 qs.length (qs.map (.int .i64))).length = G2.length + 1 := by unfold retN; rw [if_neg hn]; simp
  rw [erN, erL, erV]
  obtain ⟨n, hnn⟩ : ∃ n, qs.length = n := ⟨_, rfl⟩
  rw [hnn]
  refine awp_loop_n [false, true, false, false, false, false, false, true, false, true, false, false, false, false, false, false, false, false, false, false, false, false, false, false, false, false, false, false, false, false, false, false, false, false, false, false, true, true, true, false, false, false, false, false, false, false, false, false, false, false, false, false, false, false, false, false, false, false, false, false, false, false, false] n (fun i e H' => H' = kernH G2 (midL qs (yL deg x) i) deg ∧ e = [junk, w, junk, junk, junk, junk, junk, .slice (some ⟨G2.length, 0, none⟩) n n, junk, .pointer (some ⟨G2.length + 1, 0, none⟩), junk, junk, junk, junk, junk, junk, junk, junk, junk, junk, junk, junk, junk, junk, junk, junk, junk, junk, junk, junk, junk, junk, junk, junk, junk, junk, .slice (some ⟨G2.length, 0, none⟩) n n, .int .i64 n, .int .i64 i, junk, junk, junk, junk, junk, junk, junk, junk, junk, junk, junk, junk, junk, junk, junk, junk, junk, junk, junk, junk, junk, junk, junk, junk]) ?_ ?_
  · exact ⟨by rw [midL_zero], by simp [forget]⟩
  rintro i e H' hi ⟨rfl, rfl⟩
  have hml : (midL qs (yL deg x) i).length = n := by rw [midL_len, hnn]
  have ho := kernH_ints (G := G2) (deg := deg) hml
  have hXm := hX2.ext (kernH_x (G := G2) (m := midL qs (yL deg x) i) (deg := deg))
  ((repeat (first | refine ya (by (with_reducible constructor) <;> first | rfl | decide) ?_ | apply yb | refine yc rfl ?_ | ((first | apply yd | apply ye); simp (disch := first | exact List.all_nil | omega | (simp only [go_sem]; done) | (simp only [ln, List.length_map]; omega) | (repeat' first | assumption | exact Ext.refl _ | refine Ext.app ?_ _)) only [go_sem]; with_reducible rfl))))
  refine cond_p rfl (fun hlt => ?_) (fun hge => ?_)
  · have hi' : i < qs.length := by omega
    have hq := hin i hi'
    have eg := midL_getD (y := yL deg x) hi'
    have vb := value_bound (q := qs.getD i 0) hd s2 hq.1
    have db := den_bound deg
    have kk := kernH_k (G := G2) (m := midL qs (yL deg x) i) (deg := deg)
    have fb := ediv_bound (n := 2 * valueL deg x (qs.getD i 0) + denL deg) (b := 2 * denL deg) (m := 4000000000000000000) (by omega) ⟨by omega, by omega⟩
    have hst := store_cellI (n := n) (c := n) (i := i) (kernH_s (G := G2) (m := midL qs (yL deg x) i) (deg := deg)) (by omega) (yL deg x (qs.getD i 0))
    rw [kernH_set, midL_set hi'] at hst
    have ey : min (max ((2 * valueL deg x (qs.getD i 0) + denL deg) / (2 * denL deg)) (-32767)) 32767 = yL deg x (qs.getD i 0) := rfl
    ((repeat (first | refine ya (by (with_reducible constructor) <;> first | rfl | decide) ?_ | apply yb | refine yc rfl ?_ | ((first | apply yd | apply ye); simp (disch := first | exact List.all_nil | omega | (simp only [go_sem]; done) | (simp only [ln, List.length_map]; omega) | (repeat' first | assumption | exact Ext.refl _ | refine Ext.app ?_ _)) only [go_sem, ho.len, ho.idx, ho.load, eg, kern_all kk]; with_reducible rfl))))
    refine adraw_call (N := []) (firstD (value_c hd hXm s1 s2 hq)) ?_
    rw [List.append_nil]
    ((repeat (first | refine ya (by (with_reducible constructor) <;> first | rfl | decide) ?_ | apply yb | refine yc rfl ?_ | ((first | apply yd | apply ye); simp (disch := first | exact List.all_nil | omega | (simp only [go_sem]; done) | (simp only [ln, List.length_map]; omega) | (repeat' first | assumption | exact Ext.refl _ | refine Ext.app ?_ _)) only [go_sem, kern_den kk]; with_reducible rfl))))
    refine adraw_call (N := []) (firstD (rfloor_c _ _ (by omega) (by omega))) ?_
    rw [List.append_nil]
    ((repeat (first | refine ya (by (with_reducible constructor) <;> first | rfl | decide) ?_ | apply yb | refine yc rfl ?_ | ((first | apply yd | apply ye); simp (disch := first | exact List.all_nil | omega | (simp only [go_sem]; done) | (simp only [ln, List.length_map]; omega) | (repeat' first | assumption | exact Ext.refl _ | refine Ext.app ?_ _)) only [go_sem, ho.len, ho.idx, ho.load, ey, hst]; with_reducible rfl))))
    exact ⟨by omega, rfl, by simp [forget]⟩
  · obtain rfl : i = n := by omega
    ((repeat (first | refine ya (by (with_reducible constructor) <;> first | rfl | decide) ?_ | apply yb | refine yc rfl ?_ | ((first | apply yd | apply ye); simp (disch := first | exact List.all_nil | omega | (simp only [go_sem]; done) | (simp only [ln, List.length_map]; omega) | (repeat' first | assumption | exact Ext.refl _ | refine Ext.app ?_ _)) only [go_sem]; with_reducible rfl))))
    have em : midL qs (yL deg x) i = qs.map (yL deg x) := by rw [← hnn]; exact midL_all
    rw [em]
    refine fin_2 ⟨_, rfl, xH2.trans kernH_x, ?_⟩
    refine ⟨by simp, .inr ⟨G2.length, by simp [hnn], xH2.len, by simp; omega, ?_⟩⟩
    exact kernH_s
end
end Go.Lq

namespace Go.Lq

theorem outN_many {f : Nat → Int} {B : Int} {m : Nat} (hm : m ≤ 2000) (h1 : ∀ j : Nat, j < m → f j ≤ B) (h2 : B < f m) : ∀ {n k : Nat}, k ≤ m → m < k + n → outN f B k n = (m, 0)
  | 0, k, a, b => by omega
  | n + 1, k, a, b => by
    rw [outN_succ]
    by_cases e : k = m
    · subst e; rw [if_pos h2]
    · have := h1 k (by omega)
      rw [if_neg (by omega), if_neg (by omega)]
      exact outN_many hm h1 h2 (by omega) (by omega)
theorem outs_many {num den step count : Int} {l : List (Int × Int)} {m : Nat} (hm : m ≤ 2000) (h1 : ∀ j : Nat, j < m → ratioF num den j ≤ 64 * (count - 1)) (h2 : 64 * (count - 1) < ratioF num den m) :
    outsR 0 num den step l count = (outTo (ratioF num den) m, 0) := by
  have e : outsR 0 num den step l count = outsL (ratioF num den) 2001 count := by unfold outsR outF outC; rw [if_pos rfl, if_pos rfl]
  rw [e]; unfold outsL
  rw [outN_many hm h1 h2 (Nat.zero_le _) (by omega)]
theorem value_at {deg : Int} {x : List Int} {i : Nat} (hd : deg = 1 ∨ deg = 3) (hi : i < x.length) : valueL deg x (64 * (i : Int)) = denL deg * x.getD i 0 := by
  have e1 : 64 * (i : Int) % 64 = 0 := by omega
  have e2 : 64 * (i : Int) / 64 = i := by omega
  unfold valueL
  rw [e1, e2]
  rcases hd with rfl | rfl
  · have c0 : clampI x.length ((i : Int) + 0 + ((0 : Nat) : Int)) = i := by unfold clampI; omega
    show 0 + (64 - 0) * x.getD (clampI x.length ((i : Int) + 0 + ((0 : Nat) : Int))) 0 + 0 * _ = 64 * _
    rw [c0, Int.zero_mul]; omega
  · have c0 : clampI x.length ((i : Int) + -1 + ((1 : Nat) : Int)) = i := by unfold clampI; omega
    show 0 + 0 * _ + 1572864 * x.getD (clampI x.length ((i : Int) + -1 + ((1 : Nat) : Int))) 0 + 0 * _ + 0 * _ = 1572864 * _
    rw [c0, Int.zero_mul, Int.zero_mul, Int.zero_mul]; omega
theorem y_at {deg : Int} {x : List Int} {i : Nat} (hd : deg = 1 ∨ deg = 3) (hi : i < x.length) (hb : ∀ j : Nat, -32767 ≤ x.getD j 0 ∧ x.getD j 0 ≤ 32767) : yL deg x (64 * (i : Int)) = x.getD i 0 := by
  unfold yL
  rw [value_at hd hi]
  have := hb i
  have e : (2 * (denL deg * x.getD i 0) + denL deg) / (2 * denL deg) = x.getD i 0 := by
    rcases hd with rfl | rfl
    · show (2 * (64 * x.getD i 0) + 64) / (2 * 64) = _; omega
    · show (2 * (1572864 * x.getD i 0) + 1572864) / (2 * 1572864) = _; omega
  rw [e]; omega
theorem y_in (deg : Int) (x : List Int) (q : Int) : -32767 ≤ yL deg x q ∧ yL deg x q ≤ 32767 := by unfold yL; omega
theorem signal_of {x : List Int} (h1 : x.length ≤ 400) (h2 : ∀ j : Nat, -32767 ≤ x.getD j 0 ∧ x.getD j 0 ≤ 32767) : signalErrL x = 0 := by
  unfold signalErrL
  rw [if_neg (by omega), if_pos]
  rw [List.all_eq_true]
  intro n hn
  obtain ⟨j, hj, rfl⟩ := List.mem_iff_getElem.1 hn
  have := h2 j
  rw [List.getD_eq_getElem?_getD, List.getElem?_eq_getElem hj] at this
  exact decide_eq_true this
theorem rulesErr_r {deg num den : Int} (hd : deg = 1 ∨ deg = 3) (hn : 1 ≤ num ∧ num ≤ 1000) (hD : 1 ≤ den ∧ den ≤ 1000) : rulesErrL 0 deg num den 0 [] = 0 := by
  unfold rulesErrL
  rw [if_pos (by omega), if_pos (by unfold degErrL; rw [if_pos hd]), if_pos rfl]
  unfold ratioErrL
  rw [if_pos ⟨hn, hD⟩, firstErr_z, if_pos ⟨rfl, rfl⟩, firstErr_z]; rfl
theorem res_many {deg num den : Int} {x : List Int} {m : Nat} (hd : deg = 1 ∨ deg = 3) (hn : 1 ≤ num ∧ num ≤ 1000) (hD : 1 ≤ den ∧ den ≤ 1000) (hs : signalErrL x = 0) (hm : m ≤ 2000)
    (h1 : ∀ j : Nat, j < m → ratioF num den j ≤ 64 * ((x.length : Int) - 1)) (h2 : 64 * ((x.length : Int) - 1) < ratioF num den m) :
    resL 0 deg num den 0 [] x = ((outTo (ratioF num den) m).map (yL deg x), 0) := by
  have e : resErrL 0 deg num den 0 [] x = 0 := by unfold resErrL; rw [rulesErr_r hd hn hD, firstErr_z, hs, firstErr_z]; rfl
  unfold resL
  rw [if_pos e, outs_many hm h1 h2, if_pos rfl]
def upN (n : Nat) (x : List Int) : Nat := if x.length = 0 then 0 else n * (x.length - 1) + 1
def upL (deg : Int) (n : Nat) (x : List Int) : List Int := (outTo (ratioF 1 n) (upN n x)).map (yL deg x)
theorem up_len {deg : Int} {n : Nat} {x : List Int} : (upL deg n x).length = upN n x := by unfold upL; rw [List.length_map, outTo_len]
theorem two_of {n : Nat} (h : n = 1 ∨ n = 2 ∨ n = 4 ∨ n = 8 ∨ n = 16) : ∃ g : Nat, 1 ≤ g ∧ n * g = 64 ∧ 1 ≤ n ∧ n ≤ 16 := by
  rcases h with rfl | rfl | rfl | rfl | rfl
  · exact ⟨64, by omega⟩
  · exact ⟨32, by omega⟩
  · exact ⟨16, by omega⟩
  · exact ⟨8, by omega⟩
  · exact ⟨4, by omega⟩
theorem ratio_up {n g : Nat} (h : n * g = 64) (hn : 1 ≤ n) (k : Nat) : ratioF 1 n k = g * k := by
  unfold ratioF
  rw [Int.mul_one]
  have e : 64 * (k : Int) = (n : Int) * (g * k) := by rw [← Int.mul_assoc]; exact congrArg (· * (k : Int)) (by omega)
  rw [e]
  exact Int.mul_ediv_cancel_left _ (by omega)
theorem upN_le {n : Nat} {x : List Int} (h : n ≤ 16) (hx : x.length ≤ 24) : upN n x ≤ 2000 := by
  unfold upN
  split
  · omega
  · have := Nat.mul_le_mul h (show x.length - 1 ≤ 23 by omega)
    omega
theorem up_res {deg : Int} {n : Nat} {x : List Int} (hd : deg = 1 ∨ deg = 3) (hn : n = 1 ∨ n = 2 ∨ n = 4 ∨ n = 8 ∨ n = 16) (hs : signalErrL x = 0) (hx : x.length ≤ 24) : resL 0 deg 1 n 0 [] x = (upL deg n x, 0) := by
  obtain ⟨g, g1, g2, g3, g4⟩ := two_of hn
  refine res_many hd (by omega) (by omega) hs (upN_le g4 hx) (fun j hj => ?_) ?_
  · rw [ratio_up g2 g3]
    unfold upN at hj
    split at hj
    · omega
    · have h1 : g * j ≤ g * (n * (x.length - 1)) := Nat.mul_le_mul_left _ (by omega)
      rw [← Nat.mul_assoc, Nat.mul_comm g n, g2] at h1
      have h2 : ((g * j : Nat) : Int) ≤ ((64 * (x.length - 1) : Nat) : Int) := by exact_mod_cast h1
      have h3 : ((g * j : Nat) : Int) = (g : Int) * (j : Int) := by push_cast; rfl
      omega
  · rw [ratio_up g2 g3]
    unfold upN
    split
    · have : (g : Int) * ((0 : Nat) : Int) = 0 := by simp
      omega
    · have h1 : g * (n * (x.length - 1) + 1) = 64 * (x.length - 1) + g := by rw [Nat.mul_add, ← Nat.mul_assoc, Nat.mul_comm g n, g2, Nat.mul_one]
      have h3 : ((g * (n * (x.length - 1) + 1) : Nat) : Int) = (g : Int) * ((n * (x.length - 1) + 1 : Nat) : Int) := by push_cast; rfl
      omega
theorem up_at {deg : Int} {n : Nat} {x : List Int} (hd : deg = 1 ∨ deg = 3) (hn : n = 1 ∨ n = 2 ∨ n = 4 ∨ n = 8 ∨ n = 16) (hb : ∀ j : Nat, -32767 ≤ x.getD j 0 ∧ x.getD j 0 ≤ 32767) {i : Nat} (hi : i < x.length) :
    n * i < upN n x ∧ (upL deg n x).getD (n * i) 0 = x.getD i 0 := by
  obtain ⟨g, g1, g2, g3, g4⟩ := two_of hn
  have h1 : n * i ≤ n * (x.length - 1) := Nat.mul_le_mul_left _ (by omega)
  have h2 : n * i < upN n x := by unfold upN; split <;> omega
  refine ⟨h2, ?_⟩
  unfold upL outTo
  rw [List.map_map, List.getD_eq_getElem?_getD, List.getElem?_map, List.getElem?_range h2]
  show yL deg x (ratioF 1 n (n * i)) = _
  rw [ratio_up g2 g3]
  have h3 : (g : Int) * ((n * i : Nat) : Int) = 64 * (i : Int) := by
    push_cast
    rw [← Int.mul_assoc]
    exact congrArg (· * (i : Int)) (by have e : ((n * g : Nat) : Int) = 64 := by rw [g2]; rfl
                                       push_cast at e; rw [Int.mul_comm]; exact e)
  rw [h3]
  exact y_at hd hi hb
theorem map_in {deg : Int} {x : List Int} {l : List Int} (j : Nat) : -32767 ≤ (l.map (yL deg x)).getD j 0 ∧ (l.map (yL deg x)).getD j 0 ≤ 32767 := by
  rw [List.getD_eq_getElem?_getD, List.getElem?_map]
  cases l[j]? with
  | none => show (-32767 : Int) ≤ 0 ∧ (0 : Int) ≤ 32767; omega
  | some q => exact y_in deg x q
theorem down_res {deg : Int} {n : Nat} {x : List Int} (hd : deg = 1 ∨ deg = 3) (hn : n = 1 ∨ n = 2 ∨ n = 4 ∨ n = 8 ∨ n = 16) (hb : ∀ j : Nat, -32767 ≤ x.getD j 0 ∧ x.getD j 0 ≤ 32767) (hx : x.length ≤ 24) (hl : upN n x ≤ 400) :
    resL 0 deg n 1 0 [] (upL deg n x) = (x, 0) := by
  obtain ⟨g, g1, g2, g3, g4⟩ := two_of hn
  have hub : ∀ j : Nat, -32767 ≤ (upL deg n x).getD j 0 ∧ (upL deg n x).getD j 0 ≤ 32767 := fun j => map_in j
  have hs : signalErrL (upL deg n x) = 0 := signal_of (by rw [up_len]; exact hl) hub
  have hf : ∀ k : Nat, ratioF n 1 k = 64 * ((n * k : Nat) : Int) := fun k => by
    unfold ratioF
    rw [Int.ediv_one]
    push_cast
    rw [Int.mul_assoc, Int.mul_comm (k : Int) n]
  have c1 : ∀ j : Nat, j < x.length → ratioF n 1 j ≤ 64 * (((upL deg n x).length : Int) - 1) := fun j hj => by
    rw [hf, up_len]
    obtain ⟨h3, _⟩ := up_at hd hn hb hj
    omega
  have c2 : 64 * (((upL deg n x).length : Int) - 1) < ratioF n 1 x.length := by
    rw [hf, up_len]
    unfold upN
    split
    · rename_i h0; rw [h0, Nat.mul_zero]; omega
    · have h1 : n * x.length = n * (x.length - 1) + n := by
        obtain ⟨p, hp⟩ : ∃ p, x.length = p + 1 := ⟨x.length - 1, by omega⟩
        rw [hp, Nat.add_sub_cancel, Nat.mul_add, Nat.mul_one]
      omega
  rw [res_many (m := x.length) hd (by omega) (by omega) hs (by omega) c1 c2]
  refine Prod.ext ?_ rfl
  show (outTo (ratioF n 1) x.length).map (yL deg (upL deg n x)) = x
  unfold outTo
  rw [List.map_map]
  refine List.ext_getElem (by simp) fun j h1 h2 => ?_
  rw [List.getElem_map, List.getElem_range]
  show yL deg (upL deg n x) (ratioF n 1 j) = _
  rw [hf]
  obtain ⟨h3, h4⟩ := up_at hd hn hb h2
  rw [y_at hd (by rw [up_len]; exact h3) hub, h4, List.getD_eq_getElem?_getD, List.getElem?_eq_getElem h2]; rfl
end Go.Lq

namespace Go.Lq
open Go
open Go.Proofs

theorem pow_of {power : Int} (h : 0 ≤ power ∧ power ≤ 4) : ∃ n : Nat, (n = 1 ∨ n = 2 ∨ n = 4 ∨ n = 8 ∨ n = 16) ∧ ∀ H : AHeap, shlR (.int .i64 1) (.int .i64 power) H = some (.int .i64 (n : Int), H) := by
  have : power = 0 ∨ power = 1 ∨ power = 2 ∨ power = 3 ∨ power = 4 := by omega
  rcases this with rfl | rfl | rfl | rfl | rfl
  · exact ⟨1, by omega, fun _ => rfl⟩
  · exact ⟨2, by omega, fun _ => rfl⟩
  · exact ⟨4, by omega, fun _ => rfl⟩
  · exact ⟨8, by omega, fun _ => rfl⟩
  · exact ⟨16, by omega, fun _ => rfl⟩
theorem Pairs.none {H : AHeap} : Pairs H [] (.slice none 0 0) := ⟨rfl, .inl ⟨rfl, rfl⟩⟩
set_option maxRecDepth 100000 in
set_option maxHeartbeats 4000000 in
theorem law4 {H : AHeap} {avs : List Value} (hx : Ext H0 H) (h : RepAll Tryd.prog H [27, 3, 3] avs) : ACall Tryd.prog 4 avs H fun v _ => v = .bool true := by
  obtain ⟨w, b, c, rfl, h1, h2, h3⟩ := h.three
  obtain ⟨x, hX, hxm, _⟩ := h1.ints Tryd.underlying27 Tryd.underlying3 (by kernel_rfl)
  obtain ⟨deg, rfl, _⟩ := h2.int Tryd.underlying3
  obtain ⟨power, rfl, _⟩ := h3.int Tryd.underlying3
  (refine a4 ?_; simp only [n4, List.replicate, List.length_cons, List.length_nil, List.cons_append, List.nil_append]; first | refine q1 ?_ | refine q2 ?_ | refine q6 ?_ | refine q7 ?_ | refine qh rfl ?_ | skip)
  ((repeat (first | refine ya (by (with_reducible constructor) <;> first | rfl | decide) ?_ | apply yb | refine yc rfl ?_ | ((first | apply yd | apply ye); simp (disch := first | exact List.all_nil | omega | (simp only [go_sem]; done) | (simp only [ln, List.length_map]; omega) | (repeat' first | assumption | exact Ext.refl _ | refine Ext.app ?_ _)) only [go_sem]; with_reducible rfl))))
  refine aops_call_to (awake_c hx) ?_
  ((repeat (first | refine ya (by (with_reducible constructor) <;> first | rfl | decide) ?_ | apply yb | refine yc rfl ?_ | ((first | apply yd | apply ye); simp (disch := first | exact List.all_nil | omega | (simp only [go_sem]; done) | (simp only [ln, List.length_map]; omega) | (repeat' first | assumption | exact Ext.refl _ | refine Ext.app ?_ _)) only [go_sem]; with_reducible rfl))))
  refine cond_f rfl ?_
  by_cases h24 : x.length ≤ 24
  rotate_left 1
  · ((repeat (first | refine ya (by (with_reducible constructor) <;> first | rfl | decide) ?_ | apply yb | refine yc rfl ?_ | ((first | apply yd | apply ye); simp (disch := first | exact List.all_nil | omega | (simp only [go_sem]; done) | (simp only [ln, List.length_map]; omega) | (repeat' first | assumption | exact Ext.refl _ | refine Ext.app ?_ _)) only [go_sem, hX.len, hX.idx, hX.load, dec_t (show (24 : Int) < (x.length : Int) by omega)]; with_reducible rfl))))
    refine cond_t rfl ?_
    ((repeat (first | refine ya (by (with_reducible constructor) <;> first | rfl | decide) ?_ | apply yb | refine yc rfl ?_ | ((first | apply yd | apply ye); simp (disch := first | exact List.all_nil | omega | (simp only [go_sem]; done) | (simp only [ln, List.length_map]; omega) | (repeat' first | assumption | exact Ext.refl _ | refine Ext.app ?_ _)) only [go_sem]; with_reducible rfl))))
    exact fin_1 rfl
  ((repeat (first | refine ya (by (with_reducible constructor) <;> first | rfl | decide) ?_ | apply yb | refine yc rfl ?_ | ((first | apply yd | apply ye); simp (disch := first | exact List.all_nil | omega | (simp only [go_sem]; done) | (simp only [ln, List.length_map]; omega) | (repeat' first | assumption | exact Ext.refl _ | refine Ext.app ?_ _)) only [go_sem, hX.len, hX.idx, hX.load, dec_f (show ¬ (24 : Int) < (x.length : Int) by omega)]; with_reducible rfl))))
  refine aops_call_to (refSignalErr_c hX (by omega)) ?_
  by_cases hs : signalErrL x = 0
  rotate_left 1
  · ((repeat (first | refine ya (by (with_reducible constructor) <;> first | rfl | decide) ?_ | apply yb | refine yc rfl ?_ | ((first | apply yd | apply ye); simp (disch := first | exact List.all_nil | omega | (simp only [go_sem]; done) | (simp only [ln, List.length_map]; omega) | (repeat' first | assumption | exact Ext.refl _ | refine Ext.app ?_ _)) only [go_sem, dec_t (show signalErrL x ≠ 0 from hs)]; with_reducible rfl))))
    refine cond_t rfl ?_
    ((repeat (first | refine ya (by (with_reducible constructor) <;> first | rfl | decide) ?_ | apply yb | refine yc rfl ?_ | ((first | apply yd | apply ye); simp (disch := first | exact List.all_nil | omega | (simp only [go_sem]; done) | (simp only [ln, List.length_map]; omega) | (repeat' first | assumption | exact Ext.refl _ | refine Ext.app ?_ _)) only [go_sem]; with_reducible rfl))))
    exact fin_1 rfl
  ((repeat (first | refine ya (by (with_reducible constructor) <;> first | rfl | decide) ?_ | apply yb | refine yc rfl ?_ | ((first | apply yd | apply ye); simp (disch := first | exact List.all_nil | omega | (simp only [go_sem]; done) | (simp only [ln, List.length_map]; omega) | (repeat' first | assumption | exact Ext.refl _ | refine Ext.app ?_ _)) only [go_sem, hs]; with_reducible rfl))))
  refine aops_call_to (refDegreeErr_c _) ?_
  by_cases hd0 : degErrL deg = 0
  rotate_left 1
  · ((repeat (first | refine ya (by (with_reducible constructor) <;> first | rfl | decide) ?_ | apply yb | refine yc rfl ?_ | ((first | apply yd | apply ye); simp (disch := first | exact List.all_nil | omega | (simp only [go_sem]; done) | (simp only [ln, List.length_map]; omega) | (repeat' first | assumption | exact Ext.refl _ | refine Ext.app ?_ _)) only [go_sem, dec_t (show degErrL deg ≠ 0 from hd0)]; with_reducible rfl))))
    refine cond_t rfl ?_
    ((repeat (first | refine ya (by (with_reducible constructor) <;> first | rfl | decide) ?_ | apply yb | refine yc rfl ?_ | ((first | apply yd | apply ye); simp (disch := first | exact List.all_nil | omega | (simp only [go_sem]; done) | (simp only [ln, List.length_map]; omega) | (repeat' first | assumption | exact Ext.refl _ | refine Ext.app ?_ _)) only [go_sem]; with_reducible rfl))))
    exact fin_1 rfl
  have hd := degErr_ok hd0
  ((repeat (first | refine ya (by (with_reducible constructor) <;> first | rfl | decide) ?_ | apply yb | refine yc rfl ?_ | ((first | apply yd | apply ye); simp (disch := first | exact List.all_nil | omega | (simp only [go_sem]; done) | (simp only [ln, List.length_map]; omega) | (repeat' first | assumption | exact Ext.refl _ | refine Ext.app ?_ _)) only [go_sem, hd0]; with_reducible rfl))))
  refine aops_call_to (bwithin_c _ _ _) ?_
  by_cases hp : 0 ≤ power ∧ power ≤ 4
  rotate_left 1
  · ((repeat (first | refine ya (by (with_reducible constructor) <;> first | rfl | decide) ?_ | apply yb | refine yc rfl ?_ | ((first | apply yd | apply ye); simp (disch := first | exact List.all_nil | omega | (simp only [go_sem]; done) | (simp only [ln, List.length_map]; omega) | (repeat' first | assumption | exact Ext.refl _ | refine Ext.app ?_ _)) only [go_sem, dec_f hp]; with_reducible rfl))))
    refine cond_t rfl ?_
    ((repeat (first | refine ya (by (with_reducible constructor) <;> first | rfl | decide) ?_ | apply yb | refine yc rfl ?_ | ((first | apply yd | apply ye); simp (disch := first | exact List.all_nil | omega | (simp only [go_sem]; done) | (simp only [ln, List.length_map]; omega) | (repeat' first | assumption | exact Ext.refl _ | refine Ext.app ?_ _)) only [go_sem]; with_reducible rfl))))
    exact fin_1 rfl
  ((repeat (first | refine ya (by (with_reducible constructor) <;> first | rfl | decide) ?_ | apply yb | refine yc rfl ?_ | ((first | apply yd | apply ye); simp (disch := first | exact List.all_nil | omega | (simp only [go_sem]; done) | (simp only [ln, List.length_map]; omega) | (repeat' first | assumption | exact Ext.refl _ | refine Ext.app ?_ _)) only [go_sem, dec_t hp]; with_reducible rfl))))
  refine cond_f rfl ?_
  obtain ⟨n, hn, hsh⟩ := pow_of hp
  ((repeat (first | refine ya (by (with_reducible constructor) <;> first | rfl | decide) ?_ | apply yb | refine yc rfl ?_ | ((first | apply yd | apply ye); simp (disch := first | exact List.all_nil | omega | (simp only [go_sem]; done) | (simp only [ln, List.length_map]; omega) | (repeat' first | assumption | exact Ext.refl _ | refine Ext.app ?_ _)) only [go_sem, hsh]; with_reducible rfl))))
  refine aops_call_to (copyInts_c hX (by omega)) ?_
  have hXc : Ints (H ++ [.cells true 1 (x.map (.int .i64))]) x (.slice (some ⟨H.length, 0, none⟩) x.length x.length) := Ints.last x.length
  have x1 : Ext H (H ++ [AObj.cells true 1 (x.map (.int .i64))]) := (Ext.refl H).app _
  generalize (H ++ [AObj.cells true 1 (x.map (.int .i64))] : AHeap) = G1 at hXc x1
  ((repeat (first | refine ya (by (with_reducible constructor) <;> first | rfl | decide) ?_ | apply yb | refine yc rfl ?_ | ((first | apply yd | apply ye); simp (disch := first | exact List.all_nil | omega | (simp only [go_sem]; done) | (simp only [ln, List.length_map]; omega) | (repeat' first | assumption | exact Ext.refl _ | refine Ext.app ?_ _)) only [go_sem]; with_reducible rfl))))
  refine aops_call ((resampled_c (kind := 0) (deg := deg) (num := 1) (den := n) (step := 0) (hx.trans x1) Pairs.none (by simp) hXc (by omega)).mono fun u G2 hu => ?_)
  obtain ⟨ys, rfl, hY, x2⟩ := hu.use
  obtain ⟨s1, s2⟩ := signalErr_ok hs
  have xH2 := x1.trans x2
  rw [up_res hd hn hs h24] at hY ⊢
  dsimp only at hY ⊢
  have hYl : (upL deg n x).length = upN n x := up_len
  have hYat := fun i (hi : i < x.length) => up_at (n := n) hd hn s2 hi
  have hYin : ∀ j : Nat, -32767 ≤ (upL deg n x).getD j 0 ∧ (upL deg n x).getD j 0 ≤ 32767 := fun j => map_in j
  have hdown := down_res hd hn s2 h24
  obtain ⟨_, _, _, hn1, hn2⟩ := two_of hn
  have hul := upN_le (n := n) hn2 h24
  generalize upL deg n x = Y at hY hYl hYat hYin hdown ⊢
  have hX2 := hX.ext xH2
  have hx2 := hx.trans xH2
  have em : ∀ i : Nat, (n : Int) * (i : Int) = ((n * i : Nat) : Int) := fun i => by push_cast; rfl
  by_cases h0 : x.length = 0
  have hY0 : Y.length = 0 := by rw [hYl]; unfold upN; rw [if_pos h0]
  ((repeat (first | refine ya (by (with_reducible constructor) <;> first | rfl | decide) ?_ | apply yb | refine yc rfl ?_ | ((first | apply yd | apply ye); simp (disch := first | exact List.all_nil | omega | (simp only [go_sem]; done) | (simp only [ln, List.length_map]; omega) | (repeat' first | assumption | exact Ext.refl _ | refine Ext.app ?_ _)) only [go_sem, hX2.len, hX2.idx, hX2.load, hY.len, hY.idx, hY.load, dec_t (show (x.length : Int) = 0 by omega), dec_f (show ¬ (Y.length : Int) ≠ 0 by omega), dec_f (show ¬ (0 : Int) < (x.length : Int) by omega)]; with_reducible rfl))))
  refine cond_f rfl ?_
  rotate_left 1
  have hY0 : (Y.length : Int) = n * ((x.length : Int) - 1) + 1 := by
    rw [hYl, show (x.length : Int) - 1 = ((x.length - 1 : Nat) : Int) by omega, em]
    unfold upN; rw [if_neg h0]; omega
  ((repeat (first | refine ya (by (with_reducible constructor) <;> first | rfl | decide) ?_ | apply yb | refine yc rfl ?_ | ((first | apply yd | apply ye); simp (disch := first | exact List.all_nil | omega | (simp only [go_sem]; done) | (simp only [ln, List.length_map]; omega) | (repeat' first | assumption | exact Ext.refl _ | refine Ext.app ?_ _)) only [go_sem, hX2.len, hX2.idx, hX2.load, hY.len, hY.idx, hY.load, dec_f (show ¬ (x.length : Int) = 0 by omega), dec_t (show (0 : Int) < (x.length : Int) by omega), dec_f (show ¬ (Y.length : Int) ≠ n * ((x.length : Int) - 1) + 1 by omega)]; with_reducible rfl))))
  refine cond_f rfl ?_
  all_goals
    ((repeat (first | refine ya (by (with_reducible constructor) <;> first | rfl | decide) ?_ | apply yb | refine yc rfl ?_ | ((first | apply yd | apply ye); simp (disch := first | exact List.all_nil | omega | (simp only [go_sem]; done) | (simp only [ln, List.length_map]; omega) | (repeat' first | assumption | exact Ext.refl _ | refine Ext.app ?_ _)) only [go_sem]; with_reducible rfl))))
    refine awp_loop_n [true, true, false, false, false, false, false, true, true, false, true, false, false, false, false, false, false, false, false, false, false, false, false, false, false, false, false, false, false, false, false, false, false, false, false, false, false, false, false, false, false, false, false, false, false, false, false, false, false, false, false, false, false, false, false, false, false, false, false, false, false, false, false, false, false, false, false, false, false, false, false, false, false, false, false, false, false, false, false, false, false, false, false, false, false, false, false, false, false, false, false, false, false, false, false, false, false, false, false, false, false, false, false, false, false, false, false, false, false, false, false, false, false, false, false, false, false, false, false, false, false] x.length (fun i e H' => G2 = H' ∧ e = [w, .int .i64 deg, junk, junk, junk, junk, junk, .int .i64 n, ys, junk, .int .i64 i, junk, junk, junk, junk, junk, junk, junk, junk, junk, junk, junk, junk, junk, junk, junk, junk, junk, junk, junk, junk, junk, junk, junk, junk, junk, junk, junk, junk, junk, junk, junk, junk, junk, junk, junk, junk, junk, junk, junk, junk, junk, junk, junk, junk, junk, junk, junk, junk, junk, junk, junk, junk, junk, junk, junk, junk, junk, junk, junk, junk, junk, junk, junk, junk, junk, junk, junk, junk, junk, junk, junk, junk, junk, junk, junk, junk, junk, junk, junk, junk, junk, junk, junk, junk, junk, junk, junk, junk, junk, junk, junk, junk, junk, junk, junk, junk, junk, junk, junk, junk, junk, junk, junk, junk, junk, junk, junk, junk, junk, junk]) ?_ ?_
    · exact ⟨rfl, by simp [forget]⟩
    rintro i e H' hi ⟨rfl, rfl⟩
    ((repeat (first | refine ya (by (with_reducible constructor) <;> first | rfl | decide) ?_ | apply yb | refine yc rfl ?_ | ((first | apply yd | apply ye); simp (disch := first | exact List.all_nil | omega | (simp only [go_sem]; done) | (simp only [ln, List.length_map]; omega) | (repeat' first | assumption | exact Ext.refl _ | refine Ext.app ?_ _)) only [go_sem, hX2.len, hX2.idx, hX2.load]; with_reducible rfl))))
    refine cond_p rfl (fun hlt => ?_) (fun hge => ?_)
    · obtain ⟨a1, a2⟩ := hYat i (by omega)
      have ei := em i
      ((repeat (first | refine ya (by (with_reducible constructor) <;> first | rfl | decide) ?_ | apply yb | refine yc rfl ?_ | ((first | apply yd | apply ye); simp (disch := first | exact List.all_nil | omega | (simp only [go_sem]; done) | (simp only [ln, List.length_map]; omega) | (repeat' first | assumption | exact Ext.refl _ | refine Ext.app ?_ _)) only [go_sem, hX2.len, hX2.idx, hX2.load, hY.len, hY.idx, hY.load, ei, a2]; with_reducible rfl))))
      refine cond_f rfl ?_
      ((repeat (first | refine ya (by (with_reducible constructor) <;> first | rfl | decide) ?_ | apply yb | refine yc rfl ?_ | ((first | apply yd | apply ye); simp (disch := first | exact List.all_nil | omega | (simp only [go_sem]; done) | (simp only [ln, List.length_map]; omega) | (repeat' first | assumption | exact Ext.refl _ | refine Ext.app ?_ _)) only [go_sem]; with_reducible rfl))))
      exact ⟨by omega, rfl, by simp [forget]⟩
    · obtain rfl : i = x.length := by omega
      ((repeat (first | refine ya (by (with_reducible constructor) <;> first | rfl | decide) ?_ | apply yb | refine yc rfl ?_ | ((first | apply yd | apply ye); simp (disch := first | exact List.all_nil | omega | (simp only [go_sem]; done) | (simp only [ln, List.length_map]; omega) | (repeat' first | assumption | exact Ext.refl _ | refine Ext.app ?_ _)) only [go_sem]; with_reducible rfl))))
      refine awp_loop_n [true, true, false, false, false, false, false, true, true, false, false, true, false, false, false, false, false, false, false, false, false, false, false, false, false, false, false, false, false, false, false, false, false, false, false, false, false, false, false, false, false, false, false, false, false, false, false, false, false, false, false, false, false, false, false, false, false, false, false, false, false, false, false, false, false, false, false, false, false, false, false, false, false, false, false, false, false, false, false, false, false, false, false, false, false, false, false, false, false, false, false, false, false, false, false, false, false, false, false, false, false, false, false, false, false, false, false, false, false, false, false, false, false, false, false, false, false, false, false, false, false] Y.length (fun i e H' => G2 = H' ∧ e = [w, .int .i64 deg, junk, junk, junk, junk, junk, .int .i64 n, ys, junk, junk, .int .i64 i, junk, junk, junk, junk, junk, junk, junk, junk, junk, junk, junk, junk, junk, junk, junk, junk, junk, junk, junk, junk, junk, junk, junk, junk, junk, junk, junk, junk, junk, junk, junk, junk, junk, junk, junk, junk, junk, junk, junk, junk, junk, junk, junk, junk, junk, junk, junk, junk, junk, junk, junk, junk, junk, junk, junk, junk, junk, junk, junk, junk, junk, junk, junk, junk, junk, junk, junk, junk, junk, junk, junk, junk, junk, junk, junk, junk, junk, junk, junk, junk, junk, junk, junk, junk, junk, junk, junk, junk, junk, junk, junk, junk, junk, junk, junk, junk, junk, junk, junk, junk, junk, junk, junk, junk, junk, junk, junk, junk, junk]) ?_ ?_
      · exact ⟨rfl, by simp [forget]⟩
      rintro i e H' hi ⟨rfl, rfl⟩
      have hYi := hYin i
      ((repeat (first | refine ya (by (with_reducible constructor) <;> first | rfl | decide) ?_ | apply yb | refine yc rfl ?_ | ((first | apply yd | apply ye); simp (disch := first | exact List.all_nil | omega | (simp only [go_sem]; done) | (simp only [ln, List.length_map]; omega) | (repeat' first | assumption | exact Ext.refl _ | refine Ext.app ?_ _)) only [go_sem, hY.len, hY.idx, hY.load]; with_reducible rfl))))
      refine cond_p rfl (fun hlt => ?_) (fun hge => ?_)
      · ((repeat (first | refine ya (by (with_reducible constructor) <;> first | rfl | decide) ?_ | apply yb | refine yc rfl ?_ | ((first | apply yd | apply ye); simp (disch := first | exact List.all_nil | omega | (simp only [go_sem]; done) | (simp only [ln, List.length_map]; omega) | (repeat' first | assumption | exact Ext.refl _ | refine Ext.app ?_ _)) only [go_sem, hY.len, hY.idx, hY.load]; with_reducible rfl))))
        refine aops_call_to (bwithin_c _ _ _) ?_
        ((repeat (first | refine ya (by (with_reducible constructor) <;> first | rfl | decide) ?_ | apply yb | refine yc rfl ?_ | ((first | apply yd | apply ye); simp (disch := first | exact List.all_nil | omega | (simp only [go_sem]; done) | (simp only [ln, List.length_map]; omega) | (repeat' first | assumption | exact Ext.refl _ | refine Ext.app ?_ _)) only [go_sem, dec_t hYi]; with_reducible rfl))))
        refine cond_f rfl ?_
        ((repeat (first | refine ya (by (with_reducible constructor) <;> first | rfl | decide) ?_ | apply yb | refine yc rfl ?_ | ((first | apply yd | apply ye); simp (disch := first | exact List.all_nil | omega | (simp only [go_sem]; done) | (simp only [ln, List.length_map]; omega) | (repeat' first | assumption | exact Ext.refl _ | refine Ext.app ?_ _)) only [go_sem]; with_reducible rfl))))
        exact ⟨by omega, rfl, by simp [forget]⟩
      · obtain rfl : i = Y.length := by omega
        by_cases h4 : Y.length ≤ 400
        rotate_left 1
        · ((repeat (first | refine ya (by (with_reducible constructor) <;> first | rfl | decide) ?_ | apply yb | refine yc rfl ?_ | ((first | apply yd | apply ye); simp (disch := first | exact List.all_nil | omega | (simp only [go_sem]; done) | (simp only [ln, List.length_map]; omega) | (repeat' first | assumption | exact Ext.refl _ | refine Ext.app ?_ _)) only [go_sem, hY.len, hY.idx, hY.load, dec_t (show (400 : Int) < (Y.length : Int) by omega)]; with_reducible rfl))))
          refine cond_t rfl ?_
          ((repeat (first | refine ya (by (with_reducible constructor) <;> first | rfl | decide) ?_ | apply yb | refine yc rfl ?_ | ((first | apply yd | apply ye); simp (disch := first | exact List.all_nil | omega | (simp only [go_sem]; done) | (simp only [ln, List.length_map]; omega) | (repeat' first | assumption | exact Ext.refl _ | refine Ext.app ?_ _)) only [go_sem]; with_reducible rfl))))
          exact fin_1 rfl
        ((repeat (first | refine ya (by (with_reducible constructor) <;> first | rfl | decide) ?_ | apply yb | refine yc rfl ?_ | ((first | apply yd | apply ye); simp (disch := first | exact List.all_nil | omega | (simp only [go_sem]; done) | (simp only [ln, List.length_map]; omega) | (repeat' first | assumption | exact Ext.refl _ | refine Ext.app ?_ _)) only [go_sem, hY.len, hY.idx, hY.load, dec_f (show ¬ (400 : Int) < (Y.length : Int) by omega)]; with_reducible rfl))))
        refine cond_f rfl ?_
        ((repeat (first | refine ya (by (with_reducible constructor) <;> first | rfl | decide) ?_ | apply yb | refine yc rfl ?_ | ((first | apply yd | apply ye); simp (disch := first | exact List.all_nil | omega | (simp only [go_sem]; done) | (simp only [ln, List.length_map]; omega) | (repeat' first | assumption | exact Ext.refl _ | refine Ext.app ?_ _)) only [go_sem]; with_reducible rfl))))
        refine aops_call_to (copyInts_c hY (by omega)) ?_
        have hYc : Ints (G2 ++ [.cells true 1 (Y.map (.int .i64))]) Y (.slice (some ⟨G2.length, 0, none⟩) Y.length Y.length) := Ints.last Y.length
        have x3 : Ext G2 (G2 ++ [AObj.cells true 1 (Y.map (.int .i64))]) := (Ext.refl G2).app _
        generalize (G2 ++ [AObj.cells true 1 (Y.map (.int .i64))] : AHeap) = G3 at hYc x3
        ((repeat (first | refine ya (by (with_reducible constructor) <;> first | rfl | decide) ?_ | apply yb | refine yc rfl ?_ | ((first | apply yd | apply ye); simp (disch := first | exact List.all_nil | omega | (simp only [go_sem]; done) | (simp only [ln, List.length_map]; omega) | (repeat' first | assumption | exact Ext.refl _ | refine Ext.app ?_ _)) only [go_sem]; with_reducible rfl))))
        refine aops_call ((resampled_c (kind := 0) (deg := deg) (num := n) (den := 1) (step := 0) (hx2.trans x3) Pairs.none (by simp) hYc (by omega)).mono fun u G4 hu => ?_)
        obtain ⟨zs, rfl, hZ, x4⟩ := hu.use
        rw [hdown (by omega)] at hZ ⊢
        dsimp only at hZ ⊢
        ((repeat (first | refine ya (by (with_reducible constructor) <;> first | rfl | decide) ?_ | apply yb | refine yc rfl ?_ | ((first | apply yd | apply ye); simp (disch := first | exact List.all_nil | omega | (simp only [go_sem]; done) | (simp only [ln, List.length_map]; omega) | (repeat' first | assumption | exact Ext.refl _ | refine Ext.app ?_ _)) only [go_sem]; with_reducible rfl))))
        refine aops_call_to (bints_c hZ (hX2.ext (x3.trans x4)) (by omega) (by omega)) ?_
        ((repeat (first | refine ya (by (with_reducible constructor) <;> first | rfl | decide) ?_ | apply yb | refine yc rfl ?_ | ((first | apply yd | apply ye); simp (disch := first | exact List.all_nil | omega | (simp only [go_sem]; done) | (simp only [ln, List.length_map]; omega) | (repeat' first | assumption | exact Ext.refl _ | refine Ext.app ?_ _)) only [go_sem]; with_reducible rfl))))
        exact fin_1 rfl
end Go.Lq

namespace Go.Lq
open Go Go.ChangeShapes Go.WideShapes Go.ChangeAt Go.RowKit
open Go.Proofs

set_option maxRecDepth 100000 in
theorem lifted4 (os : Os) (started : os.Started) (X : Type) (enc : TypeId × Value → X) :
    ReturnsInHanded {} Tryd.checked os 4 .any (fun w args => (YtlcfgealkjomnaaDoor.Rows.resampleBackSpec.pre enc Tryd.prog Tryd.f4 [] false w args ∧ laidMetH Tryd.prog laidAll w) ∧ sizedMet enc Tryd.prog Tryd.f4 (OpenSpec.ofChange YtlcfgealkjomnaaDoor.Rows.resampleBackSpec) false w args)
      (YtlcfgealkjomnaaDoor.Rows.resampleBackSpec.post enc Tryd.prog Tryd.f4 false true false false) := by
  refine returnsInHanded_of_change_shaped (C := Tryd.checked) (X := fun w _ => laidMetH Tryd.prog laidAll w) (fun _ _ _ hh h => h.of_heap hh) own_knob started (by kernel_rfl) Tryd.func4
    (ChangeSpec.witness_shaped (enc := enc) (C := Tryd.checked) (os := os) (X := fun w _ => laidMetH Tryd.prog laidAll w) false (World.doorLaid Tryd.prog 400 os) #[.slice none 0 0, .int .i64 0, .int .i64 0] 12 rfl (door_shaped os _) (by kernel_rfl) (by kernel_rfl) (by kernel_rfl) (door_met os _)) ?_
  intro W base args ds gs before hsh hval hW hL
  have hWw := hW
  obtain ⟨p, q, hA, _⟩ := hW
  refine (calls_of_law (d := 20) (of_laid hL hsh) globs glob_at hA (fun j t v h1 h2 => hval j t v (by simpa using h1) (by simpa using h2)) (by kernel_rfl) fun H avs hx h => ?_).mono fun e W' ⟨he, hB⟩ => ?_
  · exact law4 hx (by rw [show Tryd.f4.params = #[27, 3, 3] from Tryd.params4] at h; exact h)
  · subst he
    exact ⟨_, rfl, law_post (bt := 4) laid_out rfl Tryd.underlying4 (by kernel_rfl) (by kernel_rfl) hWw (fun ds hd => by
      rw [show Tryd.f4.params = #[27, 3, 3] from Tryd.params4] at hd
      match ds, hd with
      | [a, b, c], _ => rfl) hB⟩

theorem unf4 : Tryd.prog.unfollowed 4 = true := by kernel_rfl
theorem rec4 : Tryd.prog.recurses 4 = true := by kernel_rfl
theorem named4 : Tryd.prog.varsNamed 4 = YtlcfgealkjomnaaDoor.Rows.resampleBackRow.named := by kernel_rfl
theorem facts4 : joinedFacts Tryd.prog 4 Tryd.f4 YtlcfgealkjomnaaDoor.Rows.resampleBackSpec YtlcfgealkjomnaaDoor.Rows.resampleBackRow = true := by
  unfold joinedFacts
  rw [may_enter, stops_heard, maps_rowed, laid_out, lifts_final, make_is, unf4, rec4, named4]
  kernel_rfl
theorem holds4 : YtlcfgealkjomnaaDoor.Rows.ResampleBackSaid :=
  OpenClaim.holds_of_wide 4 Tryd.f4 rfl rfl rfl rfl rfl rfl rfl ⟨rfl, rfl, rfl, rfl, rfl⟩ rfl rfl rfl rfl rfl (by kernel_rfl) Tryd.func4 facts4
    (of_decide_eq_true (by kernel_rfl)) (by unfold Func.isWrapper; first | (rw [if_pos (by decide +kernel)]; kernel_rfl) | (rw [if_neg (by decide +kernel)]; exact ⟨rfl, rfl⟩))
    (fun os started H enc _ => lifted4 os started H enc)
end Go.Lq
namespace Go.Proofs.YtlcfgealkjomnaaDoor
open Go Go.Lq
theorem resampleBack_proved : Rows.ResampleBackCardSaid :=
  Claim7.holds_tied_plain_at .later [] [.funcs] true (true, "9403e86e1dc287bd0cb4ee71274230f6f4c5733d4f08721e5e779bfd75daaf91") false
    holds4 (fun _ h => by cases h) (by kernel_rfl) (fun _ h => by cases h) resampleBack_row_tie rfl ⟨rfl, rfl⟩ main_is rfl
    (fun f fn hf hfn => by
      obtain rfl : f = 4 := Option.some.inj ((show Tryd.prog.funcNamed "lacquer/lacquerlaw04.ResampleBack" = some 4 by kernel_rfl).symm.trans hf) |>.symm
      obtain rfl : fn = Tryd.f4 := (Option.some.inj (Tryd.func4.symm.trans hfn)).symm
      exact ⟨looks0, fun j t ht => by
        rw [Tryd.params4] at ht
        have hm : t ∈ [27, 3, 3] := by simpa using Array.mem_of_getElem? ht
        have hall : ([27, 3, 3].all fun u => !Tryd.prog.wantsStandIn u) = true := by kernel_rfl
        exact (show Tryd.prog.wantsStandIn t = false by simpa using List.all_eq_true.1 hall t hm)⟩)
    (by kernel_rfl)
end Go.Proofs.YtlcfgealkjomnaaDoor
