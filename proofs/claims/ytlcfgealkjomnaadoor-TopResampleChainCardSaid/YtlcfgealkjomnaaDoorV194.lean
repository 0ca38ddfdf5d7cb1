/- Towards TopResampleChain of seat YtlcfgealkjomnaaDoor: it returns true for every input. Made out of the proof's own texts, merged. -/
import Derived.Test.YtlcfgealkjomnaaDoorV193
set_option linter.unusedSimpArgs false
set_option linter.unnecessarySimpa false
set_option linter.unusedVariables false
set_option maxRecDepth 100000
namespace Go.Lq
open Go
open Go.Proofs

def zeroP : (Int × Int) × (Int × Int) := ((0, 0), (0, 0))
def findR (o : Option Nat) (l : List (Int × Int)) : ((Int × Int) × (Int × Int)) × Bool := match o with | some i => (pieceOf l i, true) | none => (zeroP, false)
theorem closed_pieceB (p : (Int × Int) × (Int × Int)) (b : Bool) : Closed (.tuple #[pieceV p, .bool b]) := .tuple _ (closed_list (l := [pieceV p, .bool b]) fun v hv => by
  simp only [List.mem_cons, List.not_mem_nil, or_false] at hv
  rcases hv with rfl | rfl
  · exact .agg _ (closed_list (l := pieceC p) fun v hv => by
      simp only [pieceC, List.mem_cons, List.not_mem_nil, or_false] at hv
      rcases hv with rfl | rfl | rfl | rfl <;> exact .int _ _)
  · exact .bool _)

theorem load1 {H : AHeap} {id : Nat} {w : Value} (h : H[id]? = some (.cells true 0 [w])) : loadR (.pointer (some ⟨id, 0, none⟩)) H = some (w, H) := by rw [load_at h]; rfl
theorem findP_succ {p : (Int × Int) × (Int × Int) → Bool} {l : List (Int × Int)} {i k : Nat} : findP p l i (k + 1) = if p (pieceOf l i) = true then some i else findP p l (i + 1) k := rfl
section
variable {H : AHeap}
set_option maxHeartbeats 4000000 in
theorem find_c {l : List (Int × Int)} {v : Value} {g : FuncId} {ad : Addr} {p : (Int × Int) × (Int × Int) → Bool} (hl : Pairs H l v) (h2 : 1 ≤ l.length) (hb : l.length ≤ 1000)
    (hq : ∀ J, Ext H J → ∀ i, i < l.length - 1 → AInvoke Go.Proofs.Tryd.prog (.func (.func g) #[] #[.pointer (some ad)]) [pieceV (pieceOf l i)] J fun w H' => w = .bool (p (pieceOf l i)) ∧ H' = J) :
    ACall Go.Proofs.Tryd.prog 139 [.agg ⟨[v]⟩, .func (.func g) #[] #[.pointer (some ad)]] H fun w H' => w = .tuple #[pieceV (findR (findP p l 0 (l.length - 1)) l).1, .bool (findR (findP p l 0 (l.length - 1)) l).2] ∧ H' = H := by
  refine ACall.drop (closed_pieceB _ _) ?_
  obtain ⟨n, hn⟩ : ∃ n, l.length - 1 = n := ⟨_, rfl⟩
  rw [hn] at hq ⊢
  (refine a139 ?_; simp only [n139, List.replicate, yq, yr, yt, yu]; first | refine q1 ?_ | refine q2 ?_ | refine q6 ?_ | refine q7 ?_ | refine qh rfl ?_ | skip)
  obtain ⟨fv, hfv⟩ : ∃ fv, fv = Value.func (.func g) #[] #[.pointer (some ad)] := ⟨_, rfl⟩
  have hbf : ∀ J : AHeap, boxR fv J = some (.pointer (some ⟨J.length, 0, none⟩), J ++ [.cells true 0 [fv]]) := fun J => by rw [hfv]; rfl
  rw [← hfv] at hq ⊢
  obtain ⟨G, hG⟩ : ∃ G, G = H ++ [AObj.cells true 0 [v]] ++ [AObj.cells true 0 [fv]] ++ [AObj.cells true 0 [.int .i64 0, .int .i64 0, .int .i64 0, .int .i64 0]] ++ [AObj.cells true 0 [.bool false]] := ⟨_, rfl⟩
  have g0 : G[H.length]? = some (.cells true 0 [v]) := by rw [hG]; simp
  have g1 : G[H.length + 1]? = some (.cells true 0 [fv]) := by rw [hG]; simp
  have g2 : G[H.length + 2]? = some (.cells true 0 (pieceC zeroP)) := by rw [hG]; simp [pieceC, zeroP]
  have g3 : G[H.length + 3]? = some (.cells true 0 [.bool false]) := by rw [hG]; simp
  have xG : Ext H G := by rw [hG]; exact ((((Ext.refl H).app _).app _).app _).app _
  have lG : G.length = H.length + 4 := by rw [hG]; simp
  (repeat (first | refine ya (by (with_reducible constructor) <;> first | rfl | decide) ?_ | (apply yd; simp (disch := first | exact yn | omega | (simp only [go_sem]; done) | (simp only [ln, ym]; omega) | (repeat' first | assumption | exact yo _ | refine yp ?_ _)) only [go_sem, hl.box1, hbf]; with_reducible rfl)))
  (simp only [List.length_append, List.length_cons, List.length_nil, Nat.zero_add, Nat.add_assoc, Nat.reduceAdd])
  rw [← hG]
  clear hG
  have hlg := hl.ext xG
  ((repeat (first | refine ya (by (with_reducible constructor) <;> first | rfl | decide) ?_ | apply yb | refine yc rfl ?_ | ((first | apply yd | apply ye); simp (disch := first | exact yn | omega | (simp only [go_sem]; done) | (simp only [ln, ym]; omega) | (repeat' first | assumption | exact yo _ | refine yp ?_ _)) only [go_sem, n1_at g0]; with_reducible rfl))))
  refine aops_call ((pieces_c hlg).mono fun v1 G3 ⟨e1, e2⟩ => ?_)
  subst e1
  have x3 : Ext G G3 := ⟨_, e2⟩
  have xH3 := xG.trans x3
  have k4 : G3[G.length]? = some (.cells true 0 [v]) := by rw [e2]; exact at_new
  have k1 := x3.cell g1
  have k2 := x3.cell g2
  have k3 := x3.cell g3
  have l3 : G3.length = G.length + 1 := by rw [e2]; simp
  clear e2
  (repeat (first | refine ya (by (with_reducible constructor) <;> first | rfl | decide) ?_ | apply yb | refine yc rfl ?_))
  refine awp_rangeA mo rfl (fun l h => by cases h) (pieces1_c (idt := G.length) (l := l) (v := v) h2 hb)
    (fun rest H' => ∃ i, rest = piecesI l i (n - i) ∧ i ≤ n ∧ findP p l 0 n = findP p l i (n - i) ∧ Ext G3 H')
    (fun x H' => x = .ret ∧ ∃ i, findP p l 0 n = some i ∧ H'[H.length + 2]? = some (.cells true 0 (pieceC (pieceOf l i))) ∧ H'[H.length + 3]? = some (.cells true 0 [.bool true]) ∧ Ext H H') ?_ ?_ ?_ ?_ ?_ ?_ ?_
  · rintro rest H' c' ⟨i, h1, h2, h3, h4⟩
    exact ⟨i, h1, h2, h3, h4.set (Nat.le_refl _) _⟩
  · rintro x H' c' ⟨h1, i, h2, h3, h4, h5⟩
    refine ⟨h1, i, h2, ?_, ?_, h5.set (by omega) _⟩
    · rw [List.getElem?_set_ne (by omega)]; exact h3
    · rw [List.getElem?_set_ne (by omega)]; exact h4
  · rintro rest H' ⟨i, h1, h2, h3, h4⟩
    exact ⟨h4.cell k4, hl.ext (xH3.trans h4)⟩
  · intro N
    exact ⟨0, by rw [hn]; rfl, Nat.zero_le _, rfl, (Ext.refl _).app N⟩
  · rintro a rest H1 ⟨i, h1, hin, h3, h4⟩ hlt
    obtain ⟨k, hk⟩ : ∃ k, n - i = k := ⟨_, rfl⟩
    rw [hk] at h1 h3
    match k, h1 with
    | k + 1, h1 =>
    obtain ⟨rfl, rfl⟩ := List.cons.inj h1
    have hi : i < n := by omega
    have hki : k = n - (i + 1) := by omega
    refine ⟨rfl, fun R Rb _ hR => ?_⟩
    simp only [assignParams, List.zip_cons_cons, List.zip_nil_left, List.foldl_cons, List.foldl_nil]
    have hst : storeR 4 (.pointer (some ⟨H1.length, 0, none⟩)) (pieceV (pieceOf l i)) (H1 ++ [.cells true 0 [.int .i64 0, .int .i64 0, .int .i64 0, .int .i64 0]]) = some (undef, H1 ++ [.cells true 0 (pieceC (pieceOf l i))]) := store_new4 rfl
    ((repeat (first | refine ya (by (with_reducible constructor) <;> first | rfl | decide) ?_ | apply yb | refine yc rfl ?_ | ((first | apply yd | apply ye); simp (disch := first | exact yn | omega | (simp only [go_sem]; done) | (simp only [ln, ym]; omega) | (repeat' first | assumption | exact yo _ | refine yp ?_ _)) only [go_sem, hst]; with_reducible rfl))))
    refine ⟨rfl, at_app hR, ?_⟩
    have hlR := (List.getElem?_eq_some_iff.1 hR).1
    have hx5 : Ext G3 ((H1 ++ [AObj.cells true 0 (pieceC (pieceOf l i))]).set G3.length Rb) := (h4.app _).set (Nat.le_refl _) _
    have hRb : ((H1 ++ [AObj.cells true 0 (pieceC (pieceOf l i))]).set G3.length Rb)[G3.length]? = some Rb := get_set_self (at_app hR)
    have b7 : ((H1 ++ [AObj.cells true 0 (pieceC (pieceOf l i))]).set G3.length Rb)[H1.length]? = some (.cells true 0 (pieceC (pieceOf l i))) := by
      rw [List.getElem?_set_ne (by omega)]; exact at_new
    generalize ((H1 ++ [AObj.cells true 0 (pieceC (pieceOf l i))]).set G3.length Rb : AHeap) = Hb at hx5 hRb b7
    have b2 := hx5.cell k2
    have b3 := hx5.cell k3
    have b3' : (Hb.set (H.length + 2) (.cells true 0 (pieceC (pieceOf l i))))[H.length + 3]? = some (.cells true 0 [.bool false]) := by rw [List.getElem?_set_ne (by omega)]; exact b3
    ((repeat (first | refine ya (by (with_reducible constructor) <;> first | rfl | decide) ?_ | apply yb | refine yc rfl ?_ | ((first | apply yd | apply ye); simp (disch := first | exact yn | omega | (simp only [go_sem]; done) | (simp only [ln, ym]; omega) | (repeat' first | assumption | exact yo _ | refine yp ?_ _)) only [go_sem, load_at (hx5.cell k1), load_piece b7]; with_reducible rfl))))
    refine aops_call_to (hq Hb (xH3.trans hx5) i hi) ?_
    by_cases hp : p (pieceOf l i) = true
    · rw [hp]
      ((repeat (first | refine ya (by (with_reducible constructor) <;> first | rfl | decide) ?_ | apply yb | refine yc rfl ?_ | ((first | apply yd | apply ye); simp (disch := first | exact yn | omega | (simp only [go_sem]; done) | (simp only [ln, ym]; omega) | (repeat' first | assumption | exact yo _ | refine yp ?_ _)) only [go_sem]; with_reducible rfl))))
      refine cond_t rfl ?_
      ((repeat (first | refine ya (by (with_reducible constructor) <;> first | rfl | decide) ?_ | apply yb | refine yc rfl ?_ | ((first | apply yd | apply ye); simp (disch := first | exact yn | omega | (simp only [go_sem]; done) | (simp only [ln, ym]; omega) | (repeat' first | assumption | exact yo _ | refine yp ?_ _)) only [go_sem, load_piece b7, store_at4 b2, store_b1 b3' (y := .bool true) rfl rfl]; with_reducible rfl))))
      refine rounded_r ?_ ⟨rfl, i, ?_, ?_, get_set_self b3', ((xH3.trans hx5).set (by omega) _).set (by omega) _⟩
      · rw [List.getElem?_set_ne (by omega), List.getElem?_set_ne (by omega)]; exact hRb
      · rw [h3, findP_succ, if_pos hp]
      · rw [List.getElem?_set_ne (by omega)]; exact get_set_self b2
    · have hpf : p (pieceOf l i) = false := by simpa using hp
      rw [hpf]
      ((repeat (first | refine ya (by (with_reducible constructor) <;> first | rfl | decide) ?_ | apply yb | refine yc rfl ?_ | ((first | apply yd | apply ye); simp (disch := first | exact yn | omega | (simp only [go_sem]; done) | (simp only [ln, ym]; omega) | (repeat' first | assumption | exact yo _ | refine yp ?_ _)) only [go_sem]; with_reducible rfl))))
      refine cond_f rfl ?_
      ((repeat (first | refine ya (by (with_reducible constructor) <;> first | rfl | decide) ?_ | apply yb | refine yc rfl ?_ | ((first | apply yd | apply ye); simp (disch := first | exact yn | omega | (simp only [go_sem]; done) | (simp only [ln, ym]; omega) | (repeat' first | assumption | exact yo _ | refine yp ?_ _)) only [go_sem]; with_reducible rfl))))
      refine rounded_n hRb ⟨i + 1, by rw [← hki], by omega, ?_, hx5⟩
      rw [h3, ← hki, findP_succ, if_neg hp]
  · rintro H' ⟨i, h1, hin, h3, h4⟩
    obtain ⟨k, hk⟩ : ∃ k, n - i = k := ⟨_, rfl⟩
    rw [hk] at h1 h3
    match k, h1 with
    | 0, _ =>
    have b2 := h4.cell k2
    have b3 := h4.cell k3
    have b3' : (H'.set (H.length + 2) (.cells true 0 (pieceC zeroP)))[H.length + 3]? = some (.cells true 0 [.bool false]) := by rw [List.getElem?_set_ne (by omega)]; exact b3
    have hs4 : storeR 4 (.pointer (some ⟨H.length + 2, 0, none⟩)) (.agg ⟨[.int .i64 0, .int .i64 0, .int .i64 0, .int .i64 0]⟩) H' = some (undef, H'.set (H.length + 2) (.cells true 0 (pieceC zeroP))) := store_at4 (p := zeroP) b2
    ((repeat (first | refine ya (by (with_reducible constructor) <;> first | rfl | decide) ?_ | apply yb | refine yc rfl ?_ | ((first | apply yd | apply ye); simp (disch := first | exact yn | omega | (simp only [go_sem]; done) | (simp only [ln, ym]; omega) | (repeat' first | assumption | exact yo _ | refine yp ?_ _)) only [go_sem, fill_none, hs4, store_b1 b3' (y := .bool false) rfl rfl]; with_reducible rfl))))
    have e0 : findR (findP p l 0 n) l = (zeroP, false) := by rw [h3]; rfl
    refine fin_ll (u := pieceV zeroP) (w := .bool false) (load_piece (by rw [List.getElem?_set_ne (by omega)]; exact get_set_self b2)) (load1 (get_set_self b3')) ⟨by rw [e0], ((xH3.trans h4).set (by omega) _).set (by omega) _⟩
  · rintro x H' hx ⟨rfl, i, h1, h2, h3, h4⟩
    have e0 : findR (findP p l 0 n) l = (pieceOf l i, true) := by rw [h1]; rfl
    ((repeat (first | refine ya (by (with_reducible constructor) <;> first | rfl | decide) ?_ | apply yb | refine yc rfl ?_ | ((first | apply yd | apply ye); simp (disch := first | exact yn | omega | (simp only [go_sem]; done) | (simp only [ln, ym]; omega) | (repeat' first | assumption | exact yo _ | refine yp ?_ _)) only [go_sem]; with_reducible rfl))))
    refine fin_ll (u := pieceV (pieceOf l i)) (w := .bool true) (load_piece h2) (load1 h3) ⟨by rw [e0], h4⟩
end
end Go.Lq

namespace Go.Lq

theorem atTime_succ {l : List (Int × Int)} {t : Int} {i k : Nat} : atTime l t i (k + 1) = if (l.getD (i + 1) (0, 0)).2 < t then atTime l t (i + 1) k else i := rfl
theorem MapOk.timeOne {l : List (Int × Int)} (h : MapOk l) {t : Int} (h0 : (l.getD 0 (0, 0)).2 ≤ t) : ∀ {k i : Nat}, i + k + 1 = l.length → (∀ m, m < i → (l.getD (m + 1) (0, 0)).2 < t) →
    t ≤ (l.getD (l.length - 1) (0, 0)).2 → findP (inTime t) l i k = if k = 0 then none else some (atTime l t i (k - 1))
  | 0, i, _, _, _ => rfl
  | k + 1, i, hk, hm, ht => by
    have hlo : (l.getD i (0, 0)).2 ≤ t := by
      cases i with
      | zero => exact h0
      | succ i => exact Int.le_of_lt (hm i (by omega))
    unfold findP
    by_cases hu : t ≤ (l.getD (i + 1) (0, 0)).2
    · rw [if_pos (by simp only [inTime, pieceOf]; exact decide_eq_true ⟨hlo, hu⟩), if_neg (by omega)]
      cases k with
      | zero => rfl
      | succ k => rw [show k + 1 + 1 - 1 = k + 1 by omega, atTime_succ, if_neg (by omega)]
    · rw [if_neg (fun h => hu (of_decide_eq_true h).2)]
      have hk0 : k ≠ 0 := fun e => by
        subst e
        rw [show l.length - 1 = i + 1 by omega] at ht
        exact hu ht
      rw [MapOk.timeOne h h0 (k := k) (i := i + 1) (by omega) (fun m h2 => by
        by_cases e : m = i
        · subst e; omega
        · exact hm m (by omega)) ht, if_neg hk0, if_neg (by omega)]
      obtain ⟨k, rfl⟩ : ∃ j, k = j + 1 := ⟨k - 1, by omega⟩
      show _ = some (atTime l t i (k + 1))
      rw [atTime_succ, if_pos (by omega), Nat.add_sub_cancel]
def posN (p : (Int × Int) × (Int × Int)) (t : Int) : Int := (t - p.1.2) * (64 * (p.2.1 - p.1.1))
def posLo (p : (Int × Int) × (Int × Int)) (t : Int) : Int := 64 * p.1.1 + posN p t / (p.2.2 - p.1.2)
def posHi (p : (Int × Int) × (Int × Int)) (t : Int) : Int := if posN p t % (p.2.2 - p.1.2) = 0 then posLo p t else posLo p t + 1
end Go.Lq

namespace Go.Lq

structure Digit (y1 y0 u u1 : Int) : Prop where
  b0 : 0 ≤ y0 ∧ y0 < 4294967296
  b1 : 2147483648 ≤ y1 ∧ y1 < 4294967296
  bu : 0 ≤ u ∧ u < y1 * 4294967296 + y0
  bu1 : 0 ≤ u1 ∧ u1 < 4294967296
def quoD (y1 y0 u u1 : Int) : Int := (u * 4294967296 + u1) / (y1 * 4294967296 + y0)
section
variable {y1 y0 u u1 q r : Int}
theorem Digit.vpos (h : Digit y1 y0 u u1) : 0 < y1 * 4294967296 + y0 := by have := h.b0; have := h.b1; omega
theorem Digit.quo_nn (h : Digit y1 y0 u u1) : 0 ≤ quoD y1 y0 u u1 := Int.ediv_nonneg (by have := h.bu; have := h.bu1; omega) (by have := h.vpos; omega)
theorem Digit.quo_lt (h : Digit y1 y0 u u1) : quoD y1 y0 u u1 < 4294967296 := by
  refine Int.ediv_lt_of_lt_mul h.vpos ?_
  have h1 := h.bu
  have h2 := h.bu1
  generalize y1 * 4294967296 + y0 = v at *
  omega
theorem Digit.le_of (h : Digit y1 y0 u u1) (hm : q * (y1 * 4294967296 + y0) ≤ u * 4294967296 + u1) : q ≤ quoD y1 y0 u u1 := Int.le_ediv_of_mul_le h.vpos hm
theorem Digit.lt_of (h : Digit y1 y0 u u1) (hm : u * 4294967296 + u1 < q * (y1 * 4294967296 + y0)) : quoD y1 y0 u u1 < q := Int.ediv_lt_of_lt_mul h.vpos hm
theorem Digit.quo_mul (h : Digit y1 y0 u u1) : quoD y1 y0 u u1 * (y1 * 4294967296 + y0) ≤ u * 4294967296 + u1 := Int.ediv_mul_le _ (by have := h.vpos; omega)
theorem dist_qv (q y1 y0 : Int) : q * (y1 * 4294967296 + y0) = q * y1 * 4294967296 + q * y0 := by rw [Int.mul_add, Int.mul_assoc]
theorem Digit.first (h : Digit y1 y0 u u1) : quoD y1 y0 u u1 ≤ u / y1 := by
  have h1 := h.quo_mul
  have h2 := h.quo_nn
  have hy := h.b0
  have hy1 := h.b1
  have hu1 := h.bu1
  rw [dist_qv] at h1
  refine Int.le_ediv_of_mul_le (by omega) ?_
  have h3 := Int.mul_nonneg h2 hy.1
  generalize quoD y1 y0 u u1 * y1 = a at *
  generalize quoD y1 y0 u u1 * y0 = b at *
  omega
theorem Digit.step (h : Digit y1 y0 u u1) (hu : u = q * y1 + r) (hc : 4294967296 ≤ q ∨ 4294967296 * r + u1 < q * y0) : quoD y1 y0 u u1 ≤ q - 1 := by
  rcases hc with hc | hc
  · have := h.quo_lt; omega
  · have : quoD y1 y0 u u1 < q := h.lt_of (by rw [dist_qv]; omega)
    omega
theorem Digit.done (h : Digit y1 y0 u u1) (hu : u = q * y1 + r) (hq : quoD y1 y0 u u1 ≤ q) (hc : q * y0 ≤ 4294967296 * r + u1) : q = quoD y1 y0 u u1 := by
  have := h.le_of (q := q) (by rw [dist_qv]; omega)
  omega
theorem Digit.done2 (h : Digit y1 y0 u u1) (hu : u = q * y1 + r) (hq : quoD y1 y0 u u1 ≤ q) (hr : 4294967296 ≤ r) : q = quoD y1 y0 u u1 := by
  have hy := h.b0
  have hy1 := h.b1
  have huu := h.bu
  have hu1 := h.bu1
  have h0 := h.quo_nn
  have hlt : q < 4294967296 := by
    rcases Int.lt_or_le q 4294967296 with h | h
    · exact h
    · have := Int.mul_le_mul_of_nonneg_right h (show 0 ≤ y1 by omega)
      omega
  refine h.done hu hq ?_
  have h1 := Int.mul_le_mul (show q ≤ 4294967295 by omega) (show y0 ≤ 4294967295 by omega) hy.1 (by omega)
  omega
theorem Digit.bound (h : Digit y1 y0 u u1) (hu : u = q * y1 + r) (hq : quoD y1 y0 u u1 ≤ q) (hr : 0 ≤ r) : 0 ≤ q ∧ q ≤ 8589934592 ∧ 0 ≤ q * y1 ∧ q * y1 ≤ u := by
  have hy := h.b0
  have hy1 := h.b1
  have huu := h.bu
  have h0 := h.quo_nn
  have h1 := Int.mul_nonneg (show 0 ≤ q by omega) (show 0 ≤ y1 by omega)
  refine ⟨by omega, ?_, h1, by omega⟩
  rcases Int.lt_or_le 8589934592 q with h | h
  · have := Int.mul_le_mul (show 8589934593 ≤ q by omega) hy1.1 (by omega) (by omega)
    omega
  · exact h
theorem Digit.left (h : Digit y1 y0 u u1) (hq : q = quoD y1 y0 u u1) : u * 4294967296 + u1 - q * (y1 * 4294967296 + y0) = (u * 4294967296 + u1) % (y1 * 4294967296 + y0) := by
  subst hq
  have := Int.mul_ediv_add_emod (u * 4294967296 + u1) (y1 * 4294967296 + y0)
  rw [Int.mul_comm] at this
  unfold quoD
  omega
end
theorem div_two {U y s v hi lo un un1 un0 q1 q0 r1 r0 : Int} (hs : 0 < s) (hy : 0 < y) (hv : v = y * s) (hU : U = hi * 18446744073709551616 + lo) (hUs : U * s = un * 18446744073709551616 + un1 * 4294967296 + un0)
    (h1 : un * 4294967296 + un1 = q1 * v + r1) (h2 : r1 * 4294967296 + un0 = q0 * v + r0) (hr : 0 ≤ r0 ∧ r0 < v) : q1 * 4294967296 + q0 = U / y ∧ r0 / s = U % y := by
  have e : U * s = (q1 * 4294967296 + q0) * v + r0 := by
    rw [hUs, Int.add_mul]
    have : q1 * 4294967296 * v = q1 * v * 4294967296 := by ac_rfl
    omega
  have hvp : 0 < v := by rw [hv]; exact Int.mul_pos hy hs
  have k1 : U * s / v = q1 * 4294967296 + q0 := by
    rw [e, Int.add_comm, Int.add_mul_ediv_right _ _ (by omega), Int.ediv_eq_zero_of_lt hr.1 hr.2, Int.zero_add]
  have k2 : U * s / v = U / y := by rw [hv]; exact Int.mul_ediv_mul_of_pos_left U y hs
  have k3 : q1 * 4294967296 + q0 = U / y := by rw [← k1, k2]
  refine ⟨k3, ?_⟩
  have k4 := Int.mul_ediv_add_emod U y
  have k5 : r0 = U % y * s := by
    have : U * s = (U / y) * v + U % y * s := by
      rw [hv]
      have a1 : U / y * (y * s) = y * (U / y) * s := by ac_rfl
      rw [a1, ← Int.add_mul, k4]
    rw [e, k3] at this
    omega
  rw [k5]
  exact Int.mul_ediv_cancel _ (by omega)
end Go.Lq

namespace Go.Lq
open Go
open Go.Proofs

def len8 (n : Nat) : Nat := if n = 0 then 0 else if n < 2 then 1 else if n < 4 then 2 else if n < 8 then 3 else if n < 16 then 4 else if n < 32 then 5 else if n < 64 then 6 else if n < 128 then 7 else 8
def len8tab : ByteArray := ⟨#[0, 1, 2, 2, 3, 3, 3, 3, 4, 4, 4, 4, 4, 4, 4, 4, 5, 5, 5, 5, 5, 5, 5, 5, 5, 5, 5, 5, 5, 5, 5, 5, 6, 6, 6, 6, 6, 6, 6, 6, 6, 6, 6, 6, 6, 6, 6, 6, 6, 6, 6, 6, 6, 6, 6, 6, 6, 6, 6, 6, 6, 6, 6, 6, 7, 7, 7, 7, 7, 7, 7, 7, 7, 7, 7, 7, 7, 7, 7, 7, 7, 7, 7, 7, 7, 7, 7, 7, 7, 7, 7, 7, 7, 7, 7, 7, 7, 7, 7, 7, 7, 7, 7, 7, 7, 7, 7, 7, 7, 7, 7, 7, 7, 7, 7, 7, 7, 7, 7, 7, 7, 7, 7, 7, 7, 7, 7, 7, 8, 8, 8, 8, 8, 8, 8, 8, 8, 8, 8, 8, 8, 8, 8, 8, 8, 8, 8, 8, 8, 8, 8, 8, 8, 8, 8, 8, 8, 8, 8, 8, 8, 8, 8, 8, 8, 8, 8, 8, 8, 8, 8, 8, 8, 8, 8, 8, 8, 8, 8, 8, 8, 8, 8, 8, 8, 8, 8, 8, 8, 8, 8, 8, 8, 8, 8, 8, 8, 8, 8, 8, 8, 8, 8, 8, 8, 8, 8, 8, 8, 8, 8, 8, 8, 8, 8, 8, 8, 8, 8, 8, 8, 8, 8, 8, 8, 8, 8, 8, 8, 8, 8, 8, 8, 8, 8, 8, 8, 8, 8, 8, 8, 8, 8, 8, 8, 8, 8, 8, 8, 8, 8, 8, 8, 8, 8, 8]⟩
theorem tab8_at : ∀ k : _root_.Fin 256, (len8tab[k.val]?).map UInt8.toNat = some (len8 k.val) := by decide +kernel
set_option maxRecDepth 10000 in
theorem tab8 {H : AHeap} {n : Nat} (h : n < 256) : idxSR (.string ⟨#[0, 1, 2, 2, 3, 3, 3, 3, 4, 4, 4, 4, 4, 4, 4, 4, 5, 5, 5, 5, 5, 5, 5, 5, 5, 5, 5, 5, 5, 5, 5, 5, 6, 6, 6, 6, 6, 6, 6, 6, 6, 6, 6, 6, 6, 6, 6, 6, 6, 6, 6, 6, 6, 6, 6, 6, 6, 6, 6, 6, 6, 6, 6, 6, 7, 7, 7, 7, 7, 7, 7, 7, 7, 7, 7, 7, 7, 7, 7, 7, 7, 7, 7, 7, 7, 7, 7, 7, 7, 7, 7, 7, 7, 7, 7, 7, 7, 7, 7, 7, 7, 7, 7, 7, 7, 7, 7, 7, 7, 7, 7, 7, 7, 7, 7, 7, 7, 7, 7, 7, 7, 7, 7, 7, 7, 7, 7, 7, 8, 8, 8, 8, 8, 8, 8, 8, 8, 8, 8, 8, 8, 8, 8, 8, 8, 8, 8, 8, 8, 8, 8, 8, 8, 8, 8, 8, 8, 8, 8, 8, 8, 8, 8, 8, 8, 8, 8, 8, 8, 8, 8, 8, 8, 8, 8, 8, 8, 8, 8, 8, 8, 8, 8, 8, 8, 8, 8, 8, 8, 8, 8, 8, 8, 8, 8, 8, 8, 8, 8, 8, 8, 8, 8, 8, 8, 8, 8, 8, 8, 8, 8, 8, 8, 8, 8, 8, 8, 8, 8, 8, 8, 8, 8, 8, 8, 8, 8, 8, 8, 8, 8, 8, 8, 8, 8, 8, 8, 8, 8, 8, 8, 8, 8, 8, 8, 8, 8, 8, 8, 8, 8, 8, 8, 8, 8, 8]⟩) (.int .u8 (n : Int)) H = some (.int .u8 (len8 n : Nat), H) := by
  show idxSR (.string len8tab) _ _ = _
  obtain ⟨b, hb, he⟩ := Option.map_eq_some_iff.1 (tab8_at ⟨n, h⟩)
  dsimp only at hb he
  simp only [idxSR, idxStr, Int.toNat_natCast, hb, Option.map_some, he]
  rw [if_pos (by omega)]
  rfl
theorem len8_spec {n : Nat} (h0 : 0 < n) (h : n < 256) : 1 ≤ len8 n ∧ len8 n ≤ 8 ∧ 2 ^ (len8 n - 1) ≤ n ∧ n < 2 ^ len8 n := by
  unfold len8
  repeat' split
  all_goals first | (exfalso; omega) | (refine ⟨by omega, by omega, ?_, ?_⟩ <;> (simp; try omega))
theorem pow_split {x n k : Nat} (h1 : 1 ≤ k) (hl : 2 ^ (k - 1) ≤ x / 2 ^ n) (hu : x / 2 ^ n < 2 ^ k) : 2 ^ (n + k - 1) ≤ x ∧ x < 2 ^ (n + k) := by
  constructor
  · have := (Nat.le_div_iff_mul_le (Nat.pow_pos (by omega))).1 hl
    rwa [← Nat.pow_add, show k - 1 + n = n + k - 1 by omega] at this
  · have := (Nat.div_lt_iff_lt_mul (Nat.pow_pos (by omega))).1 hu
    rwa [← Nat.pow_add, show k + n = n + k by omega] at this

section
variable {H : AHeap}
theorem mul64_c {x y : Int} (hx : 0 ≤ x ∧ x < 18446744073709551616) (hy : 0 ≤ y ∧ y < 18446744073709551616) : ACall Go.Proofs.Tryd.prog 151 [.int .u64 x, .int .u64 y] H fun v H' =>
    v = .tuple #[.int .u64 (x * y / 18446744073709551616), .int .u64 (x * y % 18446744073709551616)] ∧ H' = H := by
  obtain ⟨x1, x0, ex1, ex0⟩ : ∃ x1 x0, x1 = x / 4294967296 ∧ x0 = x % 4294967296 := ⟨_, _, rfl, rfl⟩
  obtain ⟨y1, y0, ey1, ey0⟩ : ∃ y1 y0, y1 = y / 4294967296 ∧ y0 = y % 4294967296 := ⟨_, _, rfl, rfl⟩
  have hxx : x = x1 * 4294967296 + x0 := by omega
  have hyy : y = y1 * 4294967296 + y0 := by omega
  have m1 := mul_abs (x := x1) (y := y1) (a := 4294967295) (b := 4294967295) ⟨by omega, by omega⟩ ⟨by omega, by omega⟩
  have m2 := mul_abs (x := x1) (y := y0) (a := 4294967295) (b := 4294967295) ⟨by omega, by omega⟩ ⟨by omega, by omega⟩
  have m3 := mul_abs (x := x0) (y := y1) (a := 4294967295) (b := 4294967295) ⟨by omega, by omega⟩ ⟨by omega, by omega⟩
  have m4 := mul_abs (x := x0) (y := y0) (a := 4294967295) (b := 4294967295) ⟨by omega, by omega⟩ ⟨by omega, by omega⟩
  have n1 := Int.mul_nonneg (show 0 ≤ x1 by omega) (show 0 ≤ y1 by omega)
  have n2 := Int.mul_nonneg (show 0 ≤ x1 by omega) (show 0 ≤ y0 by omega)
  have n3 := Int.mul_nonneg (show 0 ≤ x0 by omega) (show 0 ≤ y1 by omega)
  have n4 := Int.mul_nonneg (show 0 ≤ x0 by omega) (show 0 ≤ y0 by omega)
  have hprod : x * y = x1 * y1 * 18446744073709551616 + x1 * y0 * 4294967296 + x0 * y1 * 4294967296 + x0 * y0 := by
    rw [hxx, hyy]
    simp only [Int.add_mul, Int.mul_add]
    have e1 : x1 * 4294967296 * (y1 * 4294967296) = x1 * y1 * 18446744073709551616 := by
      rw [show (18446744073709551616 : Int) = 4294967296 * 4294967296 by decide]; ac_rfl
    have e2 : x1 * 4294967296 * y0 = x1 * y0 * 4294967296 := by ac_rfl
    have e3 : x0 * (y1 * 4294967296) = x0 * y1 * 4294967296 := by ac_rfl
    omega
  (refine a151 ?_; simp only [n151, List.replicate, yq, yr, yt, yu]; first | refine q1 ?_ | refine q2 ?_ | refine q6 ?_ | refine q7 ?_ | refine qh rfl ?_ | skip)
  ((repeat (first | refine ya (by (with_reducible constructor) <;> first | rfl | decide) ?_ | apply yb | refine yc rfl ?_ | ((first | apply yd | apply ye); simp (disch := first | exact yn | omega | (simp only [go_sem]; done) | (simp only [ln, ym]; omega) | (repeat' first | assumption | exact yo _ | refine yp ?_ _)) only [go_sem, ← ex1, ← ex0, ← ey1, ← ey0, wu_eq (x * y)]; with_reducible rfl))))
  refine fin_2 ⟨?_, rfl⟩
  show Value.tuple #[.int .u64 _, .int .u64 _] = _
  congr 3
  rw [hprod]
  congr 1
  omega
set_option maxRecDepth 10000 in
theorem len64_c {x : Int} (hx : 0 < x ∧ x < 18446744073709551616) : ACall Go.Proofs.Tryd.prog 155 [.int .u64 x] H fun v H' => H' = H ∧ ∃ n : Nat, v = .int .i64 n ∧ 1 ≤ n ∧ n ≤ 64 ∧ ((2 ^ (n - 1) : Nat) : Int) ≤ x ∧ x < ((2 ^ n : Nat) : Int) := by
  obtain ⟨xn, rfl⟩ : ∃ n : Nat, x = n := ⟨x.toNat, by omega⟩
  (refine a155 ?_; simp only [n155, List.replicate, yq, yr, yt, yu]; first | refine q1 ?_ | refine q2 ?_ | refine q6 ?_ | refine q7 ?_ | refine qh rfl ?_ | skip)
  ((repeat (first | refine ya (by (with_reducible constructor) <;> first | rfl | decide) ?_ | apply yb | refine yc rfl ?_ | ((first | apply yd | apply ye); simp (disch := first | exact yn | omega | (simp only [go_sem]; done) | (simp only [ln, ym]; omega) | (repeat' first | assumption | exact yo _ | refine yp ?_ _)) only [go_sem]; with_reducible rfl))))
  refine awp_mid [true, false, true, false, false, false, false, false, false, false, false, false, false, false, false, false, false, false, false, false, false, false, false, false, false] (fun e H' => H' = H ∧ ∃ n : Nat, n ≤ 32 ∧ 0 < xn / 2 ^ n ∧ xn / 2 ^ n < 4294967296 ∧ e = [.int .u64 ((xn / 2 ^ n : Nat) : Int), junk, .int .i64 n, junk, junk, junk, junk, junk, junk, junk, junk, junk, junk, junk, junk, junk, junk, junk, junk, junk, junk, junk, junk, junk, junk]) ?_ ?_
  · refine cond_p rfl (fun h => ?_) (fun h => ?_)
    · ((repeat (first | refine ya (by (with_reducible constructor) <;> first | rfl | decide) ?_ | apply yb | refine yc rfl ?_ | ((first | apply yd | apply ye); simp (disch := first | exact yn | omega | (simp only [go_sem]; done) | (simp only [ln, ym]; omega) | (repeat' first | assumption | exact yo _ | refine yp ?_ _)) only [go_sem]; with_reducible rfl))))
      exact ⟨rfl, rfl, 32, by omega, by simp; omega, by simp; omega, by simp [forget]⟩
    · ((repeat (first | refine ya (by (with_reducible constructor) <;> first | rfl | decide) ?_ | apply yb | refine yc rfl ?_ | ((first | apply yd | apply ye); simp (disch := first | exact yn | omega | (simp only [go_sem]; done) | (simp only [ln, ym]; omega) | (repeat' first | assumption | exact yo _ | refine yp ?_ _)) only [go_sem]; with_reducible rfl))))
      exact ⟨rfl, rfl, 0, by omega, by simp; omega, by simp; omega, by simp [forget]⟩
  rintro e H' ⟨rfl, n, hn, h1, h2, rfl⟩
  ((repeat (first | refine ya (by (with_reducible constructor) <;> first | rfl | decide) ?_ | apply yb | refine yc rfl ?_ | ((first | apply yd | apply ye); simp (disch := first | exact yn | omega | (simp only [go_sem]; done) | (simp only [ln, ym]; omega) | (repeat' first | assumption | exact yo _ | refine yp ?_ _)) only [go_sem]; with_reducible rfl))))
  refine awp_mid [true, false, true, false, false, false, false, false, false, false, false, false, false, false, false, false, false, false, false, false, false, false, false, false, false] (fun e H'' => H'' = H' ∧ ∃ n : Nat, n ≤ 48 ∧ 0 < xn / 2 ^ n ∧ xn / 2 ^ n < 65536 ∧ e = [.int .u64 ((xn / 2 ^ n : Nat) : Int), junk, .int .i64 n, junk, junk, junk, junk, junk, junk, junk, junk, junk, junk, junk, junk, junk, junk, junk, junk, junk, junk, junk, junk, junk, junk]) ?_ ?_
  · refine cond_p rfl (fun h => ?_) (fun h => ?_)
    · have e1 : xn / 2 ^ (n + 16) = xn / 2 ^ n / 65536 := by rw [Nat.pow_add, Nat.div_div_eq_div_mul]
      ((repeat (first | refine ya (by (with_reducible constructor) <;> first | rfl | decide) ?_ | apply yb | refine yc rfl ?_ | ((first | apply yd | apply ye); simp (disch := first | exact yn | omega | (simp only [go_sem]; done) | (simp only [ln, ym]; omega) | (repeat' first | assumption | exact yo _ | refine yp ?_ _)) only [go_sem]; with_reducible rfl))))
      exact ⟨rfl, rfl, n + 16, by omega, by rw [e1]; omega, by rw [e1]; omega, by rw [e1]; simp [forget]⟩
    · ((repeat (first | refine ya (by (with_reducible constructor) <;> first | rfl | decide) ?_ | apply yb | refine yc rfl ?_ | ((first | apply yd | apply ye); simp (disch := first | exact yn | omega | (simp only [go_sem]; done) | (simp only [ln, ym]; omega) | (repeat' first | assumption | exact yo _ | refine yp ?_ _)) only [go_sem]; with_reducible rfl))))
      exact ⟨rfl, rfl, n, by omega, h1, by omega, by simp [forget]⟩
  rintro e H'' ⟨rfl, n, hn, h1, h2, rfl⟩
  ((repeat (first | refine ya (by (with_reducible constructor) <;> first | rfl | decide) ?_ | apply yb | refine yc rfl ?_ | ((first | apply yd | apply ye); simp (disch := first | exact yn | omega | (simp only [go_sem]; done) | (simp only [ln, ym]; omega) | (repeat' first | assumption | exact yo _ | refine yp ?_ _)) only [go_sem]; with_reducible rfl))))
  refine awp_mid [true, false, true, false, false, false, false, false, false, false, false, false, false, false, false, false, false, false, false, false, false, false, false, false, false] (fun e H' => H' = H'' ∧ ∃ n : Nat, n ≤ 56 ∧ 0 < xn / 2 ^ n ∧ xn / 2 ^ n < 256 ∧ e = [.int .u64 ((xn / 2 ^ n : Nat) : Int), junk, .int .i64 n, junk, junk, junk, junk, junk, junk, junk, junk, junk, junk, junk, junk, junk, junk, junk, junk, junk, junk, junk, junk, junk, junk]) ?_ ?_
  · refine cond_p rfl (fun h => ?_) (fun h => ?_)
    · have e1 : xn / 2 ^ (n + 8) = xn / 2 ^ n / 256 := by rw [Nat.pow_add, Nat.div_div_eq_div_mul]
      ((repeat (first | refine ya (by (with_reducible constructor) <;> first | rfl | decide) ?_ | apply yb | refine yc rfl ?_ | ((first | apply yd | apply ye); simp (disch := first | exact yn | omega | (simp only [go_sem]; done) | (simp only [ln, ym]; omega) | (repeat' first | assumption | exact yo _ | refine yp ?_ _)) only [go_sem]; with_reducible rfl))))
      exact ⟨rfl, rfl, n + 8, by omega, by rw [e1]; omega, by rw [e1]; omega, by rw [e1]; simp [forget]⟩
    · ((repeat (first | refine ya (by (with_reducible constructor) <;> first | rfl | decide) ?_ | apply yb | refine yc rfl ?_ | ((first | apply yd | apply ye); simp (disch := first | exact yn | omega | (simp only [go_sem]; done) | (simp only [ln, ym]; omega) | (repeat' first | assumption | exact yo _ | refine yp ?_ _)) only [go_sem]; with_reducible rfl))))
      exact ⟨rfl, rfl, n, by omega, h1, by omega, by simp [forget]⟩
  rintro e H' ⟨rfl, n, hn, h1, h2, rfl⟩
  obtain ⟨l1, l2, l3, l4⟩ := len8_spec h1 h2
  ((repeat (first | refine ya (by (with_reducible constructor) <;> first | rfl | decide) ?_ | apply yb | refine yc rfl ?_ | ((first | apply yd | apply ye); simp (disch := first | exact yn | omega | (simp only [go_sem]; done) | (simp only [ln, ym]; omega) | (repeat' first | assumption | exact yo _ | refine yp ?_ _)) only [go_sem, conv_u8, tab8 h2]; with_reducible rfl))))
  refine fin_1 ⟨rfl, n + len8 (xn / 2 ^ n), by simp, by omega, by omega, ?_⟩
  obtain ⟨k1, k2⟩ := pow_split l1 l3 l4
  exact ⟨by exact_mod_cast k1, by exact_mod_cast k2⟩
theorem lz64_c {x : Int} (hx : 0 < x ∧ x < 18446744073709551616) : ACall Go.Proofs.Tryd.prog 154 [.int .u64 x] H fun v H' => H' = H ∧ ∃ s : Nat, v = .int .i64 s ∧ s < 64 ∧ 9223372036854775808 ≤ x * ((2 ^ s : Nat) : Int) ∧ x * ((2 ^ s : Nat) : Int) < 18446744073709551616 := by
  (refine a154 ?_; simp only [n154, List.replicate, yq, yr, yt, yu]; first | refine q1 ?_ | refine q2 ?_ | refine q6 ?_ | refine q7 ?_ | refine qh rfl ?_ | skip)
  ((repeat (first | refine ya (by (with_reducible constructor) <;> first | rfl | decide) ?_ | apply yb | refine yc rfl ?_ | ((first | apply yd | apply ye); simp (disch := first | exact yn | omega | (simp only [go_sem]; done) | (simp only [ln, ym]; omega) | (repeat' first | assumption | exact yo _ | refine yp ?_ _)) only [go_sem]; with_reducible rfl))))
  refine aops_call ((len64_c hx).mono fun u H' ⟨h1, n, h2, n1, n2, n3, n4⟩ => ?_)
  subst h1; subst h2
  obtain ⟨xn, rfl⟩ : ∃ n : Nat, x = n := ⟨x.toNat, by omega⟩
  ((repeat (first | refine ya (by (with_reducible constructor) <;> first | rfl | decide) ?_ | apply yb | refine yc rfl ?_ | ((first | apply yd | apply ye); simp (disch := first | exact yn | omega | (simp only [go_sem]; done) | (simp only [ln, ym]; omega) | (repeat' first | assumption | exact yo _ | refine yp ?_ _)) only [go_sem]; with_reducible rfl))))
  refine fin_1 ⟨rfl, 64 - n, by simp; omega, by omega, ?_⟩
  have k1 : 2 ^ (n - 1) ≤ xn := by exact_mod_cast n3
  have k2 : xn < 2 ^ n := by exact_mod_cast n4
  have p0 : 0 < 2 ^ (64 - n) := Nat.pow_pos (by omega)
  have k3 := Nat.mul_le_mul_right (2 ^ (64 - n)) k1
  have k4 := Nat.mul_lt_mul_of_pos_right k2 p0
  rw [← Nat.pow_add, show n - 1 + (64 - n) = 63 by omega] at k3
  rw [← Nat.pow_add, show n + (64 - n) = 64 by omega] at k4
  rw [← Int.natCast_mul]
  generalize xn * 2 ^ (64 - n) = z at *
  have : (2 : Nat) ^ 63 = 9223372036854775808 := by decide
  have : (2 : Nat) ^ 64 = 18446744073709551616 := by decide
  omega
end
end Go.Lq

namespace Go.Lq
open Go
open Go.Proofs

theorem left_flow {u u1 Q y1 y0 V : Int} (h : Digit y1 y0 u u1) (hV : V = y1 * 4294967296 + y0) (hq : Q = quoD y1 y0 u u1) : wu (wu (wu (u * 4294967296) + u1) - wu (Q * V)) = (u * 4294967296 + u1) % V := by
  have h1 := h.left hq
  have h2 := h.vpos
  have h3 := h.b1
  have h4 := h.b0
  rw [← hV] at h1 h2
  have h5 := Int.emod_nonneg (u * 4294967296 + u1) (show V ≠ 0 by omega)
  have h6 := Int.emod_lt_of_pos (u * 4294967296 + u1) h2
  simp only [wu_eq]
  have h7 : V < 18446744073709551616 := by omega
  generalize (u * 4294967296 + u1) % V = R at *
  generalize Q * V = z at *
  generalize u * 4294967296 = x at *
  omega

section
variable {H : AHeap}
set_option maxHeartbeats 4000000 in
theorem div64_c {hi lo y : Int} (hh : 0 ≤ hi ∧ hi < y) (hl : 0 ≤ lo ∧ lo < 18446744073709551616) (hy : y < 18446744073709551616) : ACall Go.Proofs.Tryd.prog 152 [.int .u64 hi, .int .u64 lo, .int .u64 y] H fun v H' =>
    v = .tuple #[.int .u64 ((hi * 18446744073709551616 + lo) / y), .int .u64 ((hi * 18446744073709551616 + lo) % y)] ∧ H' = H := by
  (refine a152 ?_; simp only [n152, List.replicate, yq, yr, yt, yu]; first | refine Go.Lq.q1 ?_ | refine Go.Lq.q2 ?_ | refine Go.Lq.q6 ?_ | refine Go.Lq.q7 ?_ | refine Go.Lq.qh rfl ?_ | skip)
  ((repeat (first | refine ya (by (with_reducible constructor) <;> first | rfl | decide) ?_ | apply yb | refine yc rfl ?_ | ((first | apply yd | apply ye); simp (disch := first | exact yn | omega | (simp only [go_sem]; done) | (simp only [ln, ym]; omega) | (repeat' first | assumption | exact yo _ | refine yp ?_ _)) only [go_sem, dec_f (show ¬ y = 0 by omega)]; with_reducible rfl))))
  refine cond_f rfl ?_
  ((repeat (first | refine ya (by (with_reducible constructor) <;> first | rfl | decide) ?_ | apply yb | refine yc rfl ?_ | ((first | apply yd | apply ye); simp (disch := first | exact yn | omega | (simp only [go_sem]; done) | (simp only [ln, ym]; omega) | (repeat' first | assumption | exact yo _ | refine yp ?_ _)) only [go_sem, dec_f (show ¬ y ≤ hi by omega)]; with_reducible rfl))))
  refine cond_f rfl ?_
  have hy0 : 0 < y := by omega
  by_cases h0 : hi = 0
  · subst h0
    have e1 : lo.tdiv y = lo / y := Int.tdiv_eq_ediv_of_nonneg hl.1
    have e2 : lo.tmod y = lo % y := Int.tmod_eq_emod_of_nonneg hl.1
    have q1 := Int.ediv_nonneg hl.1 (Int.le_of_lt hy0)
    have q2 := Int.ediv_le_self y hl.1
    ((repeat (first | refine ya (by (with_reducible constructor) <;> first | rfl | decide) ?_ | apply yb | refine yc rfl ?_ | ((first | apply yd | apply ye); simp (disch := first | exact yn | omega | (simp only [go_sem]; done) | (simp only [ln, ym]; omega) | (repeat' first | assumption | exact yo _ | refine yp ?_ _)) only [go_sem]; with_reducible rfl))))
    refine cond_t rfl ?_
    ((repeat (first | refine ya (by (with_reducible constructor) <;> first | rfl | decide) ?_ | apply yb | refine yc rfl ?_ | ((first | apply yd | apply ye); simp (disch := first | exact yn | omega | (simp only [go_sem]; done) | (simp only [ln, ym]; omega) | (repeat' first | assumption | exact yo _ | refine yp ?_ _)) only [go_sem, a_quoU (show y ≠ 0 by omega), a_remU (show y ≠ 0 by omega), e1, e2]; with_reducible rfl))))
    exact fin_2 ⟨by simp, rfl⟩
  ((repeat (first | refine ya (by (with_reducible constructor) <;> first | rfl | decide) ?_ | apply yb | refine yc rfl ?_ | ((first | apply yd | apply ye); simp (disch := first | exact yn | omega | (simp only [go_sem]; done) | (simp only [ln, ym]; omega) | (repeat' first | assumption | exact yo _ | refine yp ?_ _)) only [go_sem, dec_f h0]; with_reducible rfl))))
  refine cond_f rfl ?_
  ((repeat (first | refine ya (by (with_reducible constructor) <;> first | rfl | decide) ?_ | apply yb | refine yc rfl ?_ | ((first | apply yd | apply ye); simp (disch := first | exact yn | omega | (simp only [go_sem]; done) | (simp only [ln, ym]; omega) | (repeat' first | assumption | exact yo _ | refine yp ?_ _)) only [go_sem]; with_reducible rfl))))
  refine aops_call ((lz64_c ⟨hy0, hy⟩).mono fun u H' ⟨h1, s, h2, s64, n1, n2⟩ => ?_)
  subst h1; subst h2
  have t1 : ((64 : Int) - (s : Int)).toNat = 64 - s := by omega
  have hS : ((2 ^ s : Nat) : Int) * ((2 ^ (64 - s) : Nat) : Int) = 18446744073709551616 := by
    rw [← Int.natCast_mul, ← Nat.pow_add, show s + (64 - s) = 64 by omega]; decide
  have hSp : (0 : Int) < ((2 ^ s : Nat) : Int) := by have := Nat.pow_pos (n := s) (show 0 < 2 by omega); omega
  have hTp : (0 : Int) < ((2 ^ (64 - s) : Nat) : Int) := by have := Nat.pow_pos (n := 64 - s) (show 0 < 2 by omega); omega
  have hTl : lo / ((2 ^ (64 - s) : Nat) : Int) < ((2 ^ s : Nat) : Int) := Int.ediv_lt_of_lt_mul hTp (by rw [hS]; exact hl.2)
  have hTn : 0 ≤ lo / ((2 ^ (64 - s) : Nat) : Int) := Int.ediv_nonneg hl.1 (Int.le_of_lt hTp)
  have hls : lo * ((2 ^ s : Nat) : Int) = lo / ((2 ^ (64 - s) : Nat) : Int) * 18446744073709551616 + lo * ((2 ^ s : Nat) : Int) % 18446744073709551616 := by
    have a1 := Int.mul_ediv_add_emod (lo * ((2 ^ s : Nat) : Int)) 18446744073709551616
    have a2 : lo * ((2 ^ s : Nat) : Int) / 18446744073709551616 = lo / ((2 ^ (64 - s) : Nat) : Int) := by
      rw [← hS, Int.mul_comm lo]
      exact Int.mul_ediv_mul_of_pos _ _ hSp
    rw [a2] at a1
    omega
  have hcS : (hi + 1) * ((2 ^ s : Nat) : Int) ≤ y * ((2 ^ s : Nat) : Int) := Int.mul_le_mul_of_nonneg_right (by omega) (Int.le_of_lt hSp)
  rw [Int.add_mul, Int.one_mul] at hcS
  have hhS : 0 ≤ hi * ((2 ^ s : Nat) : Int) := Int.mul_nonneg hh.1 (Int.le_of_lt hSp)
  have hbor := fun H' => bor_add (H := H') (s := s) (c := hi) (b := lo / ((2 ^ (64 - s) : Nat) : Int)) hh.1 (by omega) hTn hTl (by omega)
  have hdiv := fun U32 U1 U0 Q1 Q0 R1 R0 => @div_two (hi * 18446744073709551616 + lo) y ((2 ^ s : Nat) : Int) (y * ((2 ^ s : Nat) : Int)) hi lo U32 U1 U0 Q1 Q0 R1 R0 hSp hy0 rfl rfl
  have hUs : (hi * 18446744073709551616 + lo) * ((2 ^ s : Nat) : Int) = (hi * ((2 ^ s : Nat) : Int) + lo / ((2 ^ (64 - s) : Nat) : Int)) * 18446744073709551616 + lo * ((2 ^ s : Nat) : Int) % 18446744073709551616 := by
    rw [Int.add_mul, Int.add_mul, Int.add_assoc, ← hls]
    congr 1
    ac_rfl
  have hu32 : 0 ≤ hi * ((2 ^ s : Nat) : Int) + lo / ((2 ^ (64 - s) : Nat) : Int) ∧ hi * ((2 ^ s : Nat) : Int) + lo / ((2 ^ (64 - s) : Nat) : Int) < y * ((2 ^ s : Nat) : Int) := by omega
  have hV1 : 9223372036854775808 ≤ y * ((2 ^ s : Nat) : Int) := n1
  obtain ⟨V, hVd⟩ : ∃ V, y * ((2 ^ s : Nat) : Int) = V := ⟨_, rfl⟩
  obtain ⟨U32, hUd⟩ : ∃ U, hi * ((2 ^ s : Nat) : Int) + lo / ((2 ^ (64 - s) : Nat) : Int) = U := ⟨_, rfl⟩
  obtain ⟨U10, hLd⟩ : ∃ U, lo * ((2 ^ s : Nat) : Int) % 18446744073709551616 = U := ⟨_, rfl⟩
  obtain ⟨y1, hy1⟩ : ∃ z, V / 4294967296 = z := ⟨_, rfl⟩
  obtain ⟨y0, hy0'⟩ : ∃ z, V % 4294967296 = z := ⟨_, rfl⟩
  obtain ⟨U1, hU1⟩ : ∃ z, U10 / 4294967296 = z := ⟨_, rfl⟩
  obtain ⟨U0, hU0⟩ : ∃ z, U10 % 4294967296 = z := ⟨_, rfl⟩
  have hV2 : V = y1 * 4294967296 + y0 := by omega
  rw [hVd] at hu32 hV1 n2
  rw [hUd] at hu32
  have hLb : 0 ≤ U10 ∧ U10 < 18446744073709551616 := by omega
  have D : Digit y1 y0 U32 U1 := ⟨by omega, by omega, by omega, by omega⟩
  have e1 : U32.tdiv y1 = U32 / y1 := Int.tdiv_eq_ediv_of_nonneg D.bu.1
  have q1b := Int.ediv_le_self y1 D.bu.1
  have q1n := Int.ediv_nonneg D.bu.1 (show 0 ≤ y1 by have := D.b1; omega)
  have q1m : 0 ≤ U32 / y1 * y1 ∧ U32 / y1 * y1 ≤ U32 := ⟨Int.mul_nonneg q1n (by have := D.b1; omega), Int.ediv_mul_le _ (by have := D.b1; omega)⟩
  have q1r : U32 - U32 / y1 * y1 = U32 % y1 := by have := Int.mul_ediv_add_emod U32 y1; rw [Int.mul_comm] at this; omega
  have q1e := Int.emod_nonneg U32 (show y1 ≠ 0 by have := D.b1; omega)
  have q1l := Int.emod_lt_of_pos U32 (show 0 < y1 by have := D.b1; omega)
  have hb1 := D.b1
  have hb0 := D.b0
  have hbu := D.bu
  have hbu1 := D.bu1
  have hshr : ∀ J : AHeap, shrR (.int .u64 lo) (.int .u64 ((64 : Int) - (s : Int))) J = some (.int .u64 (lo / ((2 ^ (64 - s) : Nat) : Int)), J) := fun J => by rw [shr_u hl.1 (by omega) (by omega), t1]
  ((repeat (first | refine ya (by (with_reducible constructor) <;> first | rfl | decide) ?_ | apply yb | refine yc rfl ?_ | ((first | apply yd | apply ye); simp (disch := first | exact yn | omega | (simp only [go_sem]; done) | (simp only [ln, ym]; omega) | (repeat' first | assumption | exact yo _ | refine yp ?_ _)) only [go_sem, shl_u, hshr, hbor, wu_eq (lo * ((2 ^ s : Nat) : Int)), hVd, hUd, hLd, hy1, hy0', hU1, hU0, a_quoU (show y1 ≠ 0 by omega), e1, q1r]; with_reducible rfl))))
  refine awp_midB [false, false, true, false, false, false, false, false, true, true, true, true, false, true, true, true, false, false, false, false, false, false, false, false, false, false, false, false, false, false, false, false, false, false, false, false, false, false, false, false, false, false, false, false, false, false, false, false, false, false, false, false, false, false, false, false, false, false, false, false, false, false, false, false, false, false, false, false, false, false, false, false, false, false, false, false, false, false, false, false, false, false, false, false, false, false, false, false, false, false, false, false, false, false, false, false, false, false, false, false, false, false, false, false, false, false, false, false, false, false, false, false, false, false, false, false, false, false, false, false, false, false, false, false, false, false, false, false, false, false, false, false, false, false, false] (fun e J => J = H' ∧ e = [junk, junk, .int .u64 V, junk, junk, junk, junk, junk, .int .u64 s, .int .u64 y1, .int .u64 y0, .int .u64 U32, junk, .int .u64 U1, .int .u64 U0, .int .u64 (quoD y1 y0 U32 U1), junk, junk, junk, junk, junk, junk, junk, junk, junk, junk, junk, junk, junk, junk, junk, junk, junk, junk, junk, junk, junk, junk, junk, junk, junk, junk, junk, junk, junk, junk, junk, junk, junk, junk, junk, junk, junk, junk, junk, junk, junk, junk, junk, junk, junk, junk, junk, junk, junk, junk, junk, junk, junk, junk, junk, junk, junk, junk, junk, junk, junk, junk, junk, junk, junk, junk, junk, junk, junk, junk, junk, junk, junk, junk, junk, junk, junk, junk, junk, junk, junk, junk, junk, junk, junk, junk, junk, junk, junk, junk, junk, junk, junk, junk, junk, junk, junk, junk, junk, junk, junk, junk, junk, junk, junk, junk, junk, junk, junk, junk, junk, junk, junk, junk, junk, junk, junk, junk, junk]) ?_ ?_
  · have hfst := D.first
    have q2 := Int.ediv_nonneg D.bu.1 (show 0 ≤ y1 by omega)
    refine awp_loop [false, false, true, false, false, false, false, false, true, true, true, true, false, true, true, true, true, false, false, false, false, false, false, false, false, false, false, false, false, false, false, false, false, false, false, false, false, false, false, false, false, false, false, false, false, false, false, false, false, false, false, false, false, false, false, false, false, false, false, false, false, false, false, false, false, false, false, false, false, false, false, false, false, false, false, false, false, false, false, false, false, false, false, false, false, false, false, false, false, false, false, false, false, false, false, false, false, false, false, false, false, false, false, false, false, false, false, false, false, false, false, false, false, false, false, false, false, false, false, false, false, false, false, false, false, false, false, false, false, false, false, false, false, false, false] (fun k e J => J = H' ∧ ∃ q r : Int, k = q.toNat ∧ U32 = q * y1 + r ∧ quoD y1 y0 U32 U1 ≤ q ∧ (0 ≤ r ∧ r < 4294967296) ∧ e = [junk, junk, .int .u64 V, junk, junk, junk, junk, junk, .int .u64 s, .int .u64 y1, .int .u64 y0, .int .u64 U32, junk, .int .u64 U1, .int .u64 U0, .int .u64 q, .int .u64 r, junk, junk, junk, junk, junk, junk, junk, junk, junk, junk, junk, junk, junk, junk, junk, junk, junk, junk, junk, junk, junk, junk, junk, junk, junk, junk, junk, junk, junk, junk, junk, junk, junk, junk, junk, junk, junk, junk, junk, junk, junk, junk, junk, junk, junk, junk, junk, junk, junk, junk, junk, junk, junk, junk, junk, junk, junk, junk, junk, junk, junk, junk, junk, junk, junk, junk, junk, junk, junk, junk, junk, junk, junk, junk, junk, junk, junk, junk, junk, junk, junk, junk, junk, junk, junk, junk, junk, junk, junk, junk, junk, junk, junk, junk, junk, junk, junk, junk, junk, junk, junk, junk, junk, junk, junk, junk, junk, junk, junk, junk, junk, junk, junk, junk, junk, junk, junk, junk]) (U32 / y1).toNat ?_ ?_
    · refine ⟨rfl, U32 / y1, U32 % y1, rfl, ?_, hfst, ⟨Int.emod_nonneg _ (by omega), by have := Int.emod_lt_of_pos U32 (show 0 < y1 by omega); omega⟩, by simp [forget]⟩
      have := Int.mul_ediv_add_emod U32 y1
      rw [Int.mul_comm] at this
      omega
    rintro k e J ⟨rfl, q, r, rfl, hu, hq, hr, rfl⟩
    obtain ⟨w1, w2, w3, w4⟩ := D.bound hu hq hr.1
    have hu' : U32 = (q - 1) * y1 + (r + y1) := by rw [Int.sub_mul, Int.one_mul]; omega
    have D0 := D.quo_nn
    by_cases hA : 4294967296 ≤ q
    · have hst := D.step hu (.inl hA)
      ((repeat (first | refine ya (by (with_reducible constructor) <;> first | rfl | decide) ?_ | apply yb | refine yc rfl ?_ | ((first | apply yd | apply ye); simp (disch := first | exact yn | omega | (simp only [go_sem]; done) | (simp only [ln, ym]; omega) | (repeat' first | assumption | exact yo _ | refine yp ?_ _)) only [go_sem, dec_t hA]; with_reducible rfl))))
      refine cond_t rfl ?_
      ((repeat (first | refine ya (by (with_reducible constructor) <;> first | rfl | decide) ?_ | apply yb | refine yc rfl ?_ | ((first | apply yd | apply ye); simp (disch := first | exact yn | omega | (simp only [go_sem]; done) | (simp only [ln, ym]; omega) | (repeat' first | assumption | exact yo _ | refine yp ?_ _)) only [go_sem]; with_reducible rfl))))
      refine cond_p rfl (fun hx => ?_) (fun hx => ?_)
      · have hd := D.done2 hu' hst hx
        ((repeat (first | refine ya (by (with_reducible constructor) <;> first | rfl | decide) ?_ | apply yb | refine yc rfl ?_ | ((first | apply yd | apply ye); simp (disch := first | exact yn | omega | (simp only [go_sem]; done) | (simp only [ln, ym]; omega) | (repeat' first | assumption | exact yo _ | refine yp ?_ _)) only [go_sem]; with_reducible rfl))))
        exact ⟨rfl, rfl, by rw [← hd]; simp [forget]⟩
      · ((repeat (first | refine ya (by (with_reducible constructor) <;> first | rfl | decide) ?_ | apply yb | refine yc rfl ?_ | ((first | apply yd | apply ye); simp (disch := first | exact yn | omega | (simp only [go_sem]; done) | (simp only [ln, ym]; omega) | (repeat' first | assumption | exact yo _ | refine yp ?_ _)) only [go_sem]; with_reducible rfl))))
        exact ⟨(q - 1).toNat, by omega, rfl, q - 1, r + y1, rfl, hu', hst, by omega, by simp [forget]⟩
    · have m1 := mul_abs (x := q) (y := y0) (a := 4294967295) (b := 4294967295) ⟨by omega, by omega⟩ ⟨by omega, by omega⟩
      have m2 := Int.mul_nonneg w1 D.b0.1
      ((repeat (first | refine ya (by (with_reducible constructor) <;> first | rfl | decide) ?_ | apply yb | refine yc rfl ?_ | ((first | apply yd | apply ye); simp (disch := first | exact yn | omega | (simp only [go_sem]; done) | (simp only [ln, ym]; omega) | (repeat' first | assumption | exact yo _ | refine yp ?_ _)) only [go_sem, dec_f hA]; with_reducible rfl))))
      refine cond_p rfl (fun hc => ?_) (fun hc => ?_)
      · have hst := D.step hu (.inr hc)
        ((repeat (first | refine ya (by (with_reducible constructor) <;> first | rfl | decide) ?_ | apply yb | refine yc rfl ?_ | ((first | apply yd | apply ye); simp (disch := first | exact yn | omega | (simp only [go_sem]; done) | (simp only [ln, ym]; omega) | (repeat' first | assumption | exact yo _ | refine yp ?_ _)) only [go_sem]; with_reducible rfl))))
        refine cond_p rfl (fun hx => ?_) (fun hx => ?_)
        · have hd := D.done2 hu' hst hx
          ((repeat (first | refine ya (by (with_reducible constructor) <;> first | rfl | decide) ?_ | apply yb | refine yc rfl ?_ | ((first | apply yd | apply ye); simp (disch := first | exact yn | omega | (simp only [go_sem]; done) | (simp only [ln, ym]; omega) | (repeat' first | assumption | exact yo _ | refine yp ?_ _)) only [go_sem]; with_reducible rfl))))
          exact ⟨rfl, rfl, by rw [← hd]; simp [forget]⟩
        · ((repeat (first | refine ya (by (with_reducible constructor) <;> first | rfl | decide) ?_ | apply yb | refine yc rfl ?_ | ((first | apply yd | apply ye); simp (disch := first | exact yn | omega | (simp only [go_sem]; done) | (simp only [ln, ym]; omega) | (repeat' first | assumption | exact yo _ | refine yp ?_ _)) only [go_sem]; with_reducible rfl))))
          exact ⟨(q - 1).toNat, by omega, rfl, q - 1, r + y1, rfl, hu', hst, by omega, by simp [forget]⟩
      · have hd := D.done hu hq (by omega)
        ((repeat (first | refine ya (by (with_reducible constructor) <;> first | rfl | decide) ?_ | apply yb | refine yc rfl ?_ | ((first | apply yd | apply ye); simp (disch := first | exact yn | omega | (simp only [go_sem]; done) | (simp only [ln, ym]; omega) | (repeat' first | assumption | exact yo _ | refine yp ?_ _)) only [go_sem]; with_reducible rfl))))
        exact ⟨rfl, rfl, by rw [← hd]; simp [forget]⟩
  rintro e J ⟨rfl, rfl⟩
  have hfl := left_flow D hV2 rfl
  obtain ⟨Q1, hQ1⟩ : ∃ z, quoD y1 y0 U32 U1 = z := ⟨_, rfl⟩
  obtain ⟨R1, hR1⟩ : ∃ z, (U32 * 4294967296 + U1) % V = z := ⟨_, rfl⟩
  have hQb : 0 ≤ Q1 ∧ Q1 < 4294967296 := by rw [← hQ1]; exact ⟨D.quo_nn, D.quo_lt⟩
  rw [hR1, hQ1] at hfl
  rw [hQ1]
  have hR1b : 0 ≤ R1 ∧ R1 < V := by rw [← hR1]; exact ⟨Int.emod_nonneg _ (by omega), Int.emod_lt_of_pos _ (by omega)⟩
  have D2 : Digit y1 y0 R1 U0 := ⟨by omega, by omega, by omega, by omega⟩
  have e2 : R1.tdiv y1 = R1 / y1 := Int.tdiv_eq_ediv_of_nonneg hR1b.1
  have p1b := Int.ediv_le_self y1 hR1b.1
  have p1n := Int.ediv_nonneg hR1b.1 (show 0 ≤ y1 by omega)
  have p1m : 0 ≤ R1 / y1 * y1 ∧ R1 / y1 * y1 ≤ R1 := ⟨Int.mul_nonneg p1n (by omega), Int.ediv_mul_le _ (by omega)⟩
  have p1r : R1 - R1 / y1 * y1 = R1 % y1 := by have := Int.mul_ediv_add_emod R1 y1; rw [Int.mul_comm] at this; omega
  have p1e := Int.emod_nonneg R1 (show y1 ≠ 0 by omega)
  have p1l := Int.emod_lt_of_pos R1 (show 0 < y1 by omega)
  ((repeat (first | refine ya (by (with_reducible constructor) <;> first | rfl | decide) ?_ | apply yb | refine yc rfl ?_ | ((first | apply yd | apply ye); simp (disch := first | exact yn | omega | (simp only [go_sem]; done) | (simp only [ln, ym]; omega) | (repeat' first | assumption | exact yo _ | refine yp ?_ _)) only [go_sem, hfl, a_quoU (show y1 ≠ 0 by omega), e2, p1r]; with_reducible rfl))))
  refine awp_midB [false, false, true, false, false, false, false, false, true, true, true, false, false, false, true, true, false, true, true, false, false, false, false, false, false, false, false, false, false, false, false, false, false, false, false, false, false, false, false, false, false, false, false, false, false, false, false, false, false, false, false, false, false, false, false, false, false, false, false, false, false, false, false, false, false, false, false, false, false, false, false, false, false, false, false, false, false, false, false, false, false, false, false, false, false, false, false, false, false, false, false, false, false, false, false, false, false, false, false, false, false, false, false, false, false, false, false, false, false, false, false, false, false, false, false, false, false, false, false, false, false, false, false, false, false, false, false, false, false, false, false, false, false, false, false] (fun e K => K = J ∧ e = [junk, junk, .int .u64 V, junk, junk, junk, junk, junk, .int .u64 s, .int .u64 y1, .int .u64 y0, junk, junk, junk, .int .u64 U0, .int .u64 Q1, junk, .int .u64 R1, .int .u64 (quoD y1 y0 R1 U0), junk, junk, junk, junk, junk, junk, junk, junk, junk, junk, junk, junk, junk, junk, junk, junk, junk, junk, junk, junk, junk, junk, junk, junk, junk, junk, junk, junk, junk, junk, junk, junk, junk, junk, junk, junk, junk, junk, junk, junk, junk, junk, junk, junk, junk, junk, junk, junk, junk, junk, junk, junk, junk, junk, junk, junk, junk, junk, junk, junk, junk, junk, junk, junk, junk, junk, junk, junk, junk, junk, junk, junk, junk, junk, junk, junk, junk, junk, junk, junk, junk, junk, junk, junk, junk, junk, junk, junk, junk, junk, junk, junk, junk, junk, junk, junk, junk, junk, junk, junk, junk, junk, junk, junk, junk, junk, junk, junk, junk, junk, junk, junk, junk, junk, junk, junk]) ?_ ?_
  · have hfst := D2.first
    have q2 := Int.ediv_nonneg D2.bu.1 (show 0 ≤ y1 by omega)
    refine awp_loop [false, false, true, false, false, false, false, false, true, true, true, false, false, false, true, true, true, true, true, false, false, false, false, false, false, false, false, false, false, false, false, false, false, false, false, false, false, false, false, false, false, false, false, false, false, false, false, false, false, false, false, false, false, false, false, false, false, false, false, false, false, false, false, false, false, false, false, false, false, false, false, false, false, false, false, false, false, false, false, false, false, false, false, false, false, false, false, false, false, false, false, false, false, false, false, false, false, false, false, false, false, false, false, false, false, false, false, false, false, false, false, false, false, false, false, false, false, false, false, false, false, false, false, false, false, false, false, false, false, false, false, false, false, false, false] (fun k e K => K = J ∧ ∃ q r : Int, k = q.toNat ∧ R1 = q * y1 + r ∧ quoD y1 y0 R1 U0 ≤ q ∧ (0 ≤ r ∧ r < 4294967296) ∧ e = [junk, junk, .int .u64 V, junk, junk, junk, junk, junk, .int .u64 s, .int .u64 y1, .int .u64 y0, junk, junk, junk, .int .u64 U0, .int .u64 Q1, .int .u64 r, .int .u64 R1, .int .u64 q, junk, junk, junk, junk, junk, junk, junk, junk, junk, junk, junk, junk, junk, junk, junk, junk, junk, junk, junk, junk, junk, junk, junk, junk, junk, junk, junk, junk, junk, junk, junk, junk, junk, junk, junk, junk, junk, junk, junk, junk, junk, junk, junk, junk, junk, junk, junk, junk, junk, junk, junk, junk, junk, junk, junk, junk, junk, junk, junk, junk, junk, junk, junk, junk, junk, junk, junk, junk, junk, junk, junk, junk, junk, junk, junk, junk, junk, junk, junk, junk, junk, junk, junk, junk, junk, junk, junk, junk, junk, junk, junk, junk, junk, junk, junk, junk, junk, junk, junk, junk, junk, junk, junk, junk, junk, junk, junk, junk, junk, junk, junk, junk, junk, junk, junk, junk]) (R1 / y1).toNat ?_ ?_
    · refine ⟨rfl, R1 / y1, R1 % y1, rfl, ?_, hfst, ⟨Int.emod_nonneg _ (by omega), by have := Int.emod_lt_of_pos R1 (show 0 < y1 by omega); omega⟩, by simp [forget]⟩
      have := Int.mul_ediv_add_emod R1 y1
      rw [Int.mul_comm] at this
      omega
    rintro k e K ⟨rfl, q, r, rfl, hu, hq, hr, rfl⟩
    obtain ⟨w1, w2, w3, w4⟩ := D2.bound hu hq hr.1
    have hu' : R1 = (q - 1) * y1 + (r + y1) := by rw [Int.sub_mul, Int.one_mul]; omega
    have D0 := D2.quo_nn
    by_cases hA : 4294967296 ≤ q
    · have hst := D2.step hu (.inl hA)
      ((repeat (first | refine ya (by (with_reducible constructor) <;> first | rfl | decide) ?_ | apply yb | refine yc rfl ?_ | ((first | apply yd | apply ye); simp (disch := first | exact yn | omega | (simp only [go_sem]; done) | (simp only [ln, ym]; omega) | (repeat' first | assumption | exact yo _ | refine yp ?_ _)) only [go_sem, dec_t hA]; with_reducible rfl))))
      refine cond_t rfl ?_
      ((repeat (first | refine ya (by (with_reducible constructor) <;> first | rfl | decide) ?_ | apply yb | refine yc rfl ?_ | ((first | apply yd | apply ye); simp (disch := first | exact yn | omega | (simp only [go_sem]; done) | (simp only [ln, ym]; omega) | (repeat' first | assumption | exact yo _ | refine yp ?_ _)) only [go_sem]; with_reducible rfl))))
      refine cond_p rfl (fun hx => ?_) (fun hx => ?_)
      · have hd := D2.done2 hu' hst hx
        ((repeat (first | refine ya (by (with_reducible constructor) <;> first | rfl | decide) ?_ | apply yb | refine yc rfl ?_ | ((first | apply yd | apply ye); simp (disch := first | exact yn | omega | (simp only [go_sem]; done) | (simp only [ln, ym]; omega) | (repeat' first | assumption | exact yo _ | refine yp ?_ _)) only [go_sem]; with_reducible rfl))))
        exact ⟨rfl, rfl, by rw [← hd]; simp [forget]⟩
      · ((repeat (first | refine ya (by (with_reducible constructor) <;> first | rfl | decide) ?_ | apply yb | refine yc rfl ?_ | ((first | apply yd | apply ye); simp (disch := first | exact yn | omega | (simp only [go_sem]; done) | (simp only [ln, ym]; omega) | (repeat' first | assumption | exact yo _ | refine yp ?_ _)) only [go_sem]; with_reducible rfl))))
        exact ⟨(q - 1).toNat, by omega, rfl, q - 1, r + y1, rfl, hu', hst, by omega, by simp [forget]⟩
    · have m1 := mul_abs (x := q) (y := y0) (a := 4294967295) (b := 4294967295) ⟨by omega, by omega⟩ ⟨by omega, by omega⟩
      have m2 := Int.mul_nonneg w1 D2.b0.1
      ((repeat (first | refine ya (by (with_reducible constructor) <;> first | rfl | decide) ?_ | apply yb | refine yc rfl ?_ | ((first | apply yd | apply ye); simp (disch := first | exact yn | omega | (simp only [go_sem]; done) | (simp only [ln, ym]; omega) | (repeat' first | assumption | exact yo _ | refine yp ?_ _)) only [go_sem, dec_f hA]; with_reducible rfl))))
      refine cond_p rfl (fun hc => ?_) (fun hc => ?_)
      · have hst := D2.step hu (.inr hc)
        ((repeat (first | refine ya (by (with_reducible constructor) <;> first | rfl | decide) ?_ | apply yb | refine yc rfl ?_ | ((first | apply yd | apply ye); simp (disch := first | exact yn | omega | (simp only [go_sem]; done) | (simp only [ln, ym]; omega) | (repeat' first | assumption | exact yo _ | refine yp ?_ _)) only [go_sem]; with_reducible rfl))))
        refine cond_p rfl (fun hx => ?_) (fun hx => ?_)
        · have hd := D2.done2 hu' hst hx
          ((repeat (first | refine ya (by (with_reducible constructor) <;> first | rfl | decide) ?_ | apply yb | refine yc rfl ?_ | ((first | apply yd | apply ye); simp (disch := first | exact yn | omega | (simp only [go_sem]; done) | (simp only [ln, ym]; omega) | (repeat' first | assumption | exact yo _ | refine yp ?_ _)) only [go_sem]; with_reducible rfl))))
          exact ⟨rfl, rfl, by rw [← hd]; simp [forget]⟩
        · ((repeat (first | refine ya (by (with_reducible constructor) <;> first | rfl | decide) ?_ | apply yb | refine yc rfl ?_ | ((first | apply yd | apply ye); simp (disch := first | exact yn | omega | (simp only [go_sem]; done) | (simp only [ln, ym]; omega) | (repeat' first | assumption | exact yo _ | refine yp ?_ _)) only [go_sem]; with_reducible rfl))))
          exact ⟨(q - 1).toNat, by omega, rfl, q - 1, r + y1, rfl, hu', hst, by omega, by simp [forget]⟩
      · have hd := D2.done hu hq (by omega)
        ((repeat (first | refine ya (by (with_reducible constructor) <;> first | rfl | decide) ?_ | apply yb | refine yc rfl ?_ | ((first | apply yd | apply ye); simp (disch := first | exact yn | omega | (simp only [go_sem]; done) | (simp only [ln, ym]; omega) | (repeat' first | assumption | exact yo _ | refine yp ?_ _)) only [go_sem]; with_reducible rfl))))
        exact ⟨rfl, rfl, by rw [← hd]; simp [forget]⟩
  rintro e K ⟨rfl, rfl⟩
  have hfl2 := left_flow D2 hV2 rfl
  obtain ⟨Q0, hQ0⟩ : ∃ z, quoD y1 y0 R1 U0 = z := ⟨_, rfl⟩
  obtain ⟨R0, hR0⟩ : ∃ z, (R1 * 4294967296 + U0) % V = z := ⟨_, rfl⟩
  have hQ0b : 0 ≤ Q0 ∧ Q0 < 4294967296 := by rw [← hQ0]; exact ⟨D2.quo_nn, D2.quo_lt⟩
  rw [hR0, hQ0] at hfl2
  rw [hQ0]
  have hR0b : 0 ≤ R0 ∧ R0 < V := by rw [← hR0]; exact ⟨Int.emod_nonneg _ (by omega), Int.emod_lt_of_pos _ (by omega)⟩
  have hend := hdiv U32 U1 U0 Q1 Q0 R1 R0 (by rw [hUs, hUd, hLd]; omega) (by
    rw [hVd, ← hQ1, ← hR1, hV2]
    have := Int.mul_ediv_add_emod (U32 * 4294967296 + U1) (y1 * 4294967296 + y0)
    rw [Int.mul_comm] at this
    unfold quoD; omega) (by
    rw [hVd, ← hQ0, ← hR0, hV2]
    have := Int.mul_ediv_add_emod (R1 * 4294967296 + U0) (y1 * 4294967296 + y0)
    rw [Int.mul_comm] at this
    unfold quoD; omega) (by rw [hVd]; exact hR0b)
  have hshr2 : ∀ J : AHeap, shrR (.int .u64 R0) (.int .u64 (s : Int)) J = some (.int .u64 (R0 / ((2 ^ s : Nat) : Int)), J) := fun J => by rw [shr_u hR0b.1 (by omega) (by omega), Int.toNat_natCast]
  ((repeat (first | refine ya (by (with_reducible constructor) <;> first | rfl | decide) ?_ | apply yb | refine yc rfl ?_ | ((first | apply yd | apply ye); simp (disch := first | exact yn | omega | (simp only [go_sem]; done) | (simp only [ln, ym]; omega) | (repeat' first | assumption | exact yo _ | refine yp ?_ _)) only [go_sem, hfl2, hshr2]; with_reducible rfl))))
  refine fin_2 ⟨?_, rfl⟩
  show Value.tuple #[.int .u64 (Q1 * 4294967296 + Q0), .int .u64 (R0 / ((2 ^ s : Nat) : Int))] = _
  rw [hend.1, hend.2]
end
end Go.Lq

namespace Go.Lq
open Go
open Go.Proofs

def posRes (l : List (Int × Int)) (t : Int) : Option Nat → (Int × Int) × Int
  | none => ((0, 0), 2)
  | some i => ((posLo (pieceOf l i) t, posHi (pieceOf l i) t), 0)
def posAtL (l : List (Int × Int)) (t : Int) : (Int × Int) × Int := if mapErrL l = 0 then posRes l t (findP (inTime t) l 0 (l.length - 1)) else ((0, 0), mapErrL l)
theorem conv_iu64 {n : Int} {H : AHeap} (h : 0 ≤ n) (h2 : n < 18446744073709551616) : convR .u64 (.int .i64 n) H = some (.int .u64 n, H) := by
  have : IntKind.u64.wrap n = n := by
    show wu n = n
    exact wu_id h h2
  simp [convR, this]

theorem conv_ui64 {n : Int} {H : AHeap} (h : 0 ≤ n) (h2 : n ≤ 1000000000000000) : convR .i64 (.int .u64 n) H = some (.int .i64 n, H) := by
  have : IntKind.i64.wrap n = n := by
    show w64 n = n
    exact w64_id (by omega) (by omega)
  simp [convR, this]
theorem fill1v {x v : Value} (h : isAtom v = true) : fillA [x] [(0, 1, .agg ⟨[v]⟩)] = some [v] := by
  have e1 : (Value.agg ⟨[v]⟩).cells = ⟨[v]⟩ := rfl
  simp [fillA, e1, h, setCells]
section
variable {H : AHeap}
theorem positionAt1_c {t : Int} {q : (Int × Int) × (Int × Int)} {id : Nat} (h : H[id]? = some (.cells true 0 [.int .i64 t])) : ACall Go.Proofs.Tryd.prog 150 [pieceV q, .pointer (some ⟨id, 0, none⟩)] H fun v H' => v = .bool (inTime t q) ∧ H' = H := by
  refine ACall.drop (.bool _) ?_
  (refine a150 ?_; simp only [n150, List.replicate, yq, yr, yt, yu]; first | refine q1 ?_ | refine q2 ?_ | refine q6 ?_ | refine q7 ?_ | refine qh rfl ?_ | skip)
  have g0 : (H ++ [AObj.cells true 0 (pieceC q)])[H.length]? = some (.cells true 0 (pieceC q)) := at_new
  have xG : Ext H (H ++ [AObj.cells true 0 (pieceC q)]) := (Ext.refl H).app _
  have h1 := xG.cell h
  (repeat (first | refine ya (by (with_reducible constructor) <;> first | rfl | decide) ?_ | (apply yd; simp (disch := first | exact yn | omega | (simp only [go_sem]; done) | (simp only [ln, ym]; omega) | (repeat' first | assumption | exact yo _ | refine yp ?_ _)) only [go_sem, box_piece]; with_reducible rfl)))
  generalize (H ++ [AObj.cells true 0 (pieceC q)] : AHeap) = G at g0 xG h1
  ((repeat (first | refine ya (by (with_reducible constructor) <;> first | rfl | decide) ?_ | apply yb | refine yc rfl ?_ | ((first | apply yd | apply ye); simp (disch := first | exact yn | omega | (simp only [go_sem]; done) | (simp only [ln, ym]; omega) | (repeat' first | assumption | exact yo _ | refine yp ?_ _)) only [go_sem, load_at g0, load_at h1, pieceC]; with_reducible rfl))))
  refine aops_call_to (swithin_c _ _ _) ?_
  ((repeat (first | refine ya (by (with_reducible constructor) <;> first | rfl | decide) ?_ | apply yb | refine yc rfl ?_ | ((first | apply yd | apply ye); simp (disch := first | exact yn | omega | (simp only [go_sem]; done) | (simp only [ln, ym]; omega) | (repeat' first | assumption | exact yo _ | refine yp ?_ _)) only [go_sem]; with_reducible rfl))))
  exact fin_1 ⟨rfl, xG⟩
set_option maxHeartbeats 4000000 in
theorem positionAt_c {l : List (Int × Int)} {v : Value} {t : Int} (hl : Pairs H l v) (hb : l.length ≤ 1000000000) : ACall Go.Proofs.Tryd.prog 148 [.agg ⟨[v]⟩, .int .i64 t] H fun w H' =>
    w = .tuple #[fracV (posAtL l t).1, .int .i64 (posAtL l t).2] ∧ H' = H := by
  refine ACall.drop (closed_frac1 _ _) ?_
  (refine a148 ?_; simp only [n148, List.replicate, yq, yr, yt, yu]; first | refine Go.Lq.q1 ?_ | refine Go.Lq.q2 ?_ | refine Go.Lq.q6 ?_ | refine Go.Lq.q7 ?_ | refine Go.Lq.qh rfl ?_ | skip)
  obtain ⟨G, hG⟩ : ∃ G, G = H ++ [AObj.cells true 0 [v]] ++ [AObj.cells true 0 [.int .i64 t]] ++ [AObj.cells true 0 [.int .i64 0, .int .i64 0]] := ⟨_, rfl⟩
  have g0 : G[H.length]? = some (.cells true 0 [v]) := by rw [hG]; simp
  have g1 : G[H.length + 1]? = some (.cells true 0 [.int .i64 t]) := by rw [hG]; simp
  have g2 : G[H.length + 2]? = some (.cells true 0 [.int .i64 0, .int .i64 0]) := by rw [hG]; simp
  have xG : Ext H G := by rw [hG]; exact (((Ext.refl H).app _).app _).app _
  have lG : G.length = H.length + 3 := by rw [hG]; simp
  have hf1 : fillA [.slice none 0 0] [(0, 1, .agg ⟨[v]⟩)] = some [v] := fill1v hl.atom
  have hms : ∀ J : AHeap, mkSliceL 1 1 (some [v]) J = some (.slice (some ⟨J.length, 0, none⟩) 1 1, J ++ [.cells true 1 [v]]) := fun J => mkSliceL_some (by simp [hl.atom])
  have hbi : ∀ J : AHeap, boxR (.int .i64 t) J = some (.pointer (some ⟨J.length, 0, none⟩), J ++ [.cells true 0 [.int .i64 t]]) := fun J => rfl
  (repeat (first | refine ya (by (with_reducible constructor) <;> first | rfl | decide) ?_ | (apply yd; simp (disch := first | exact yn | omega | (simp only [go_sem]; done) | (simp only [ln, ym]; omega) | (repeat' first | assumption | exact yo _ | refine yp ?_ _)) only [go_sem, hl.box1, hbi]; with_reducible rfl)))
  (simp only [List.length_append, List.length_cons, List.length_nil, Nat.zero_add, Nat.add_assoc, Nat.reduceAdd])
  rw [← hG]
  clear hG
  ((repeat (first | refine ya (by (with_reducible constructor) <;> first | rfl | decide) ?_ | apply yb | refine yc rfl ?_ | ((first | apply yd | apply ye); simp (disch := first | exact yn | omega | (simp only [go_sem]; done) | (simp only [ln, ym]; omega) | (repeat' first | assumption | exact yo _ | refine yp ?_ _)) only [go_sem, n1_at g0, hf1, hms]; with_reducible rfl))))
  have hS : Sl (G ++ [AObj.cells true 1 [v]]) 1 1 [v] (.slice (some ⟨G.length, 0, none⟩) 1 1) := Sl.last rfl 1
  have x2 : Ext G (G ++ [AObj.cells true 1 [v]]) := (Ext.refl G).app _
  generalize (G ++ [AObj.cells true 1 [v]] : AHeap) = G2 at hS x2
  have xH2 := xG.trans x2
  have k0 := x2.cell g0
  have k1 := x2.cell g1
  have k2 := x2.cell g2
  refine aops_call_to (spMapErr_c hS (hl.ext xH2) hb) ?_
  ((repeat (first | refine ya (by (with_reducible constructor) <;> first | rfl | decide) ?_ | apply yb | refine yc rfl ?_ | ((first | apply yd | apply ye); simp (disch := first | exact yn | omega | (simp only [go_sem]; done) | (simp only [ln, ym]; omega) | (repeat' first | assumption | exact yo _ | refine yp ?_ _)) only [go_sem]; with_reducible rfl))))
  refine cond_p rfl (fun hne => ?_) (fun heq => ?_)
  · have ev : posAtL l t = ((0, 0), mapErrL l) := by unfold posAtL; rw [if_neg hne]
    rw [ev]
    ((repeat (first | refine ya (by (with_reducible constructor) <;> first | rfl | decide) ?_ | apply yb | refine yc rfl ?_ | ((first | apply yd | apply ye); simp (disch := first | exact yn | omega | (simp only [go_sem]; done) | (simp only [ln, ym]; omega) | (repeat' first | assumption | exact yo _ | refine yp ?_ _)) only [go_sem, fill_none, store_b2 k2]; with_reducible rfl))))
    refine fin_l2f rfl (get_set_self k2) ⟨rfl, xH2.set (by omega) _⟩
  have hz := Decidable.not_not.1 heq
  have hok := mapErr_ok hz
  have h20 := hok.hi
  have h02 := hok.lo
  have ev : posAtL l t = posRes l t (findP (inTime t) l 0 (l.length - 1)) := by unfold posAtL; rw [if_pos hz]
  ((repeat (first | refine ya (by (with_reducible constructor) <;> first | rfl | decide) ?_ | apply yb | refine yc rfl ?_ | ((first | apply yd | apply ye); simp (disch := first | exact yn | omega | (simp only [go_sem]; done) | (simp only [ln, ym]; omega) | (repeat' first | assumption | exact yo _ | refine yp ?_ _)) only [go_sem, n1_at k0]; with_reducible rfl))))
  refine aops_call_to (find_c (g := 150) (ad := ⟨H.length + 1, 0, none⟩) (p := inTime t) (hl.ext xH2) (by omega) (by omega) (fun J hJ i hi => positionAt1_c (hJ.cell k1))) ?_
  obtain ⟨o, ho⟩ : ∃ o, findP (inTime t) l 0 (l.length - 1) = o := ⟨_, rfl⟩
  rw [ho] at ev ⊢
  have hst : storeR 4 (.pointer (some ⟨G2.length, 0, none⟩)) (pieceV (findR o l).1) (G2 ++ [.cells true 0 [.int .i64 0, .int .i64 0, .int .i64 0, .int .i64 0]]) = some (undef, G2 ++ [.cells true 0 (pieceC (findR o l).1)]) := store_new4 rfl
  ((repeat (first | refine ya (by (with_reducible constructor) <;> first | rfl | decide) ?_ | apply yb | refine yc rfl ?_ | ((first | apply yd | apply ye); simp (disch := first | exact yn | omega | (simp only [go_sem]; done) | (simp only [ln, ym]; omega) | (repeat' first | assumption | exact yo _ | refine yp ?_ _)) only [go_sem, hst]; with_reducible rfl))))
  have b7 : (G2 ++ [AObj.cells true 0 (pieceC (findR o l).1)])[G2.length]? = some (.cells true 0 (pieceC (findR o l).1)) := at_new
  have x3 : Ext G2 (G2 ++ [AObj.cells true 0 (pieceC (findR o l).1)]) := (Ext.refl G2).app _
  generalize (G2 ++ [AObj.cells true 0 (pieceC (findR o l).1)] : AHeap) = G3 at b7 x3
  have xH3 := xH2.trans x3
  have j1 := x3.cell k1
  have j2 := x3.cell k2
  cases o with
  | none =>
    rw [ev]
    ((repeat (first | refine ya (by (with_reducible constructor) <;> first | rfl | decide) ?_ | apply yb | refine yc rfl ?_ | ((first | apply yd | apply ye); simp (disch := first | exact yn | omega | (simp only [go_sem]; done) | (simp only [ln, ym]; omega) | (repeat' first | assumption | exact yo _ | refine yp ?_ _)) only [go_sem, findR]; with_reducible rfl))))
    refine cond_t rfl ?_
    ((repeat (first | refine ya (by (with_reducible constructor) <;> first | rfl | decide) ?_ | apply yb | refine yc rfl ?_ | ((first | apply yd | apply ye); simp (disch := first | exact yn | omega | (simp only [go_sem]; done) | (simp only [ln, ym]; omega) | (repeat' first | assumption | exact yo _ | refine yp ?_ _)) only [go_sem, fill_none, store_b2 j2]; with_reducible rfl))))
    refine fin_l2f rfl (get_set_self j2) ⟨rfl, xH3.set (by omega) _⟩
  | some i =>
    obtain ⟨_, f2, f3, _⟩ := findP_some ho
    have hin : (pieceOf l i).1.2 ≤ t ∧ t ≤ (pieceOf l i).2.2 := of_decide_eq_true f3
    have b7' : G3[G2.length]? = some (.cells true 0 (pieceC (pieceOf l i))) := b7
    have p1 : 0 ≤ (pieceOf l i).1.1 ∧ (pieceOf l i).1.1 ≤ 1000000 := hok.pos i (by omega)
    have p2 : 0 ≤ (pieceOf l i).2.1 ∧ (pieceOf l i).2.1 ≤ 1000000 := hok.pos (i + 1) (by omega)
    have p3 : 0 ≤ (pieceOf l i).1.2 ∧ (pieceOf l i).1.2 ≤ 1000000000000 := hok.time i (by omega)
    have p4 : 0 ≤ (pieceOf l i).2.2 ∧ (pieceOf l i).2.2 ≤ 1000000000000 := hok.time (i + 1) (by omega)
    have p5 : (pieceOf l i).1.1 < (pieceOf l i).2.1 := hok.posUp i (by omega)
    have p6 : (pieceOf l i).1.2 < (pieceOf l i).2.2 := hok.timeUp i (by omega)
    have ev2 : posRes l t (some i) = ((posLo (pieceOf l i) t, posHi (pieceOf l i) t), 0) := rfl
    rw [ev, ev2]
    have ef : (findR (some i) l) = (pieceOf l i, true) := rfl
    rw [ef]
    generalize pieceOf l i = p at *
    ((repeat (first | refine ya (by (with_reducible constructor) <;> first | rfl | decide) ?_ | apply yb | refine yc rfl ?_ | ((first | apply yd | apply ye); simp (disch := first | exact yn | omega | (simp only [go_sem]; done) | (simp only [ln, ym]; omega) | (repeat' first | assumption | exact yo _ | refine yp ?_ _)) only [go_sem]; with_reducible rfl))))
    refine cond_f rfl ?_
    obtain ⟨x, hx⟩ : ∃ x, t - p.1.2 = x := ⟨_, rfl⟩
    obtain ⟨y, hy⟩ : ∃ y, 64 * (p.2.1 - p.1.1) = y := ⟨_, rfl⟩
    obtain ⟨d, hd⟩ : ∃ d, p.2.2 - p.1.2 = d := ⟨_, rfl⟩
    have m1 : 0 ≤ x * y := Int.mul_nonneg (by omega) (by omega)
    have m2 : x * y ≤ d * 64000000 := Int.le_trans (Int.mul_le_mul_of_nonneg_right (show x ≤ d by omega) (by omega)) (Int.mul_le_mul_of_nonneg_left (by omega) (by omega))
    have hN : posN p t = x * y := by unfold posN; rw [hx, hy]
    have q1 : x * y / d ≤ 64000000 := Int.ediv_le_of_le_mul (by omega) (by rw [Int.mul_comm 64000000 d]; exact m2)
    have q0 : 0 ≤ x * y / d := Int.ediv_nonneg m1 (by omega)
    ((repeat (first | refine ya (by (with_reducible constructor) <;> first | rfl | decide) ?_ | apply yb | refine yc rfl ?_ | ((first | apply yd | apply ye); simp (disch := first | exact yn | omega | (simp only [go_sem]; done) | (simp only [ln, ym]; omega) | (repeat' first | assumption | exact yo _ | refine yp ?_ _)) only [go_sem, load_at j1, load_at b7', load_piece b7', pieceC, hx, conv_iu64 (n := x) (by omega) (by omega)]; with_reducible rfl))))
    refine adraw_call (N := []) (firstD (positions_c (by omega))) ?_
    rw [List.append_nil]
    ((repeat (first | refine ya (by (with_reducible constructor) <;> first | rfl | decide) ?_ | apply yb | refine yc rfl ?_ | ((first | apply yd | apply ye); simp (disch := first | exact yn | omega | (simp only [go_sem]; done) | (simp only [ln, ym]; omega) | (repeat' first | assumption | exact yo _ | refine yp ?_ _)) only [go_sem, hy, conv_iu64 (n := y) (by omega) (by omega)]; with_reducible rfl))))
    refine adraw_call (N := []) (firstD (mul64_c ⟨by omega, by omega⟩ ⟨by omega, by omega⟩)) ?_
    rw [List.append_nil]
    ((repeat (first | refine ya (by (with_reducible constructor) <;> first | rfl | decide) ?_ | apply yb | refine yc rfl ?_ | ((first | apply yd | apply ye); simp (disch := first | exact yn | omega | (simp only [go_sem]; done) | (simp only [ln, ym]; omega) | (repeat' first | assumption | exact yo _ | refine yp ?_ _)) only [go_sem, load_piece b7']; with_reducible rfl))))
    refine aops_call_to (times_c (by omega)) ?_
    ((repeat (first | refine ya (by (with_reducible constructor) <;> first | rfl | decide) ?_ | apply yb | refine yc rfl ?_ | ((first | apply yd | apply ye); simp (disch := first | exact yn | omega | (simp only [go_sem]; done) | (simp only [ln, ym]; omega) | (repeat' first | assumption | exact yo _ | refine yp ?_ _)) only [go_sem, hd, conv_iu64 (n := d) (by omega) (by omega)]; with_reducible rfl))))
    obtain ⟨z, hz2⟩ : ∃ z, x * y = z := ⟨_, rfl⟩
    rw [hz2] at m1 m2 q1 q0 hN ⊢
    have hd1 : z / 18446744073709551616 < d := by omega
    refine aops_call_to (div64_c (hi := z / 18446744073709551616) (lo := z % 18446744073709551616) (y := d) ⟨by omega, hd1⟩ ⟨by omega, by omega⟩ (by omega)) ?_
    have ez : z / 18446744073709551616 * 18446744073709551616 + z % 18446744073709551616 = z := by omega
    rw [ez]
    obtain ⟨q, hq⟩ : ∃ q, z / d = q := ⟨_, rfl⟩
    rw [hq] at q1 q0 ⊢
    have elo : posLo p t = 64 * p.1.1 + q := by unfold posLo; rw [hN, hd, hq]
    ((repeat (first | refine ya (by (with_reducible constructor) <;> first | rfl | decide) ?_ | apply yb | refine yc rfl ?_ | ((first | apply yd | apply ye); simp (disch := first | exact yn | omega | (simp only [go_sem]; done) | (simp only [ln, ym]; omega) | (repeat' first | assumption | exact yo _ | refine yp ?_ _)) only [go_sem, load_at b7', pieceC, conv_ui64 (n := q) (by omega) (by omega)]; with_reducible rfl))))
    refine cond_p rfl (fun hr => ?_) (fun hr => ?_)
    · have ehi : posHi p t = 64 * p.1.1 + q := by unfold posHi; rw [hN, hd, if_pos hr, elo]
      rw [elo, ehi]
      ((repeat (first | refine ya (by (with_reducible constructor) <;> first | rfl | decide) ?_ | apply yb | refine yc rfl ?_ | ((first | apply yd | apply ye); simp (disch := first | exact yn | omega | (simp only [go_sem]; done) | (simp only [ln, ym]; omega) | (repeat' first | assumption | exact yo _ | refine yp ?_ _)) only [go_sem, fill2i, store_b2 j2]; with_reducible rfl))))
      refine fin_l2f rfl (get_set_self j2) ⟨rfl, xH3.set (by omega) _⟩
    · have ehi : posHi p t = 64 * p.1.1 + q + 1 := by unfold posHi; rw [hN, hd, if_neg hr, elo]
      rw [elo, ehi]
      ((repeat (first | refine ya (by (with_reducible constructor) <;> first | rfl | decide) ?_ | apply yb | refine yc rfl ?_ | ((first | apply yd | apply ye); simp (disch := first | exact yn | omega | (simp only [go_sem]; done) | (simp only [ln, ym]; omega) | (repeat' first | assumption | exact yo _ | refine yp ?_ _)) only [go_sem, fill2i, store_b2 j2]; with_reducible rfl))))
      refine fin_l2f rfl (get_set_self j2) ⟨rfl, xH3.set (by omega) _⟩
end
end Go.Lq


namespace Go.Lq
open Go
open Go.Proofs

def ratioErrL (num den step : Int) (n : Nat) : Int := firstErr [(if (1 ≤ num ∧ num ≤ 1000) ∧ (1 ≤ den ∧ den ≤ 1000) then 0 else 2), (if step = 0 ∧ (n : Int) = 0 then 0 else 3)]
def curveErrL (l : List (Int × Int)) (step num den : Int) : Int := firstErr [mapErrL l, (if 1 ≤ step ∧ step ≤ 1000000000000 then 0 else 2), (if num = 0 ∧ den = 0 then 0 else 3)]
def rulesErrL (kind deg num den step : Int) (l : List (Int × Int)) : Int :=
  if 0 ≤ kind ∧ kind ≤ 1 then (if degErrL deg = 0 then (if kind = 0 then ratioErrL num den step l.length else curveErrL l step num den) else degErrL deg) else 15
def rulesC (kind deg num den step : Int) (v : Value) : List Value := [.int .i64 kind, .int .i64 deg, .int .i64 num, .int .i64 den, .int .i64 step, v]
def rulesV (kind deg num den step : Int) (v : Value) : Value := .agg ⟨[.int .i64 kind, .int .i64 deg, .int .i64 num, .int .i64 den, .int .i64 step, v]⟩

section
variable {H : AHeap} {kind deg num den step : Int} {l : List (Int × Int)} {v : Value}
theorem box_rules (hv : isAtom v = true) : boxR (rulesV kind deg num den step v) H = some (.pointer (some ⟨H.length, 0, none⟩), H ++ [.cells true 0 (rulesC kind deg num den step v)]) := box_agg (by simp [hv, isAtom_int])
theorem checkRules1_c (n : Int) : ACall Go.Proofs.Tryd.prog 96 [.int .i64 n] H fun w H' => w = .bool (decide (1 ≤ n ∧ n ≤ 1000)) ∧ H' = H := by
  (refine a96 ?_; simp only [n96, List.replicate, yq, yr, yt, yu]; first | refine q1 ?_ | refine q2 ?_ | refine q6 ?_ | refine q7 ?_ | refine qh rfl ?_ | skip)
  ((repeat (first | refine ya (by (with_reducible constructor) <;> first | rfl | decide) ?_ | apply yb | refine yc rfl ?_ | ((first | apply yd | apply ye); simp (disch := first | exact yn | omega | (simp only [go_sem]; done) | (simp only [ln, ym]; omega) | (repeat' first | assumption | exact yo _ | refine yp ?_ _)) only [go_sem]; with_reducible rfl))))
  refine aops_call_to (within_c _ _ _) ?_
  ((repeat (first | refine ya (by (with_reducible constructor) <;> first | rfl | decide) ?_ | apply yb | refine yc rfl ?_ | ((first | apply yd | apply ye); simp (disch := first | exact yn | omega | (simp only [go_sem]; done) | (simp only [ln, ym]; omega) | (repeat' first | assumption | exact yo _ | refine yp ?_ _)) only [go_sem]; with_reducible rfl))))
  exact fin_1 ⟨rfl, rfl⟩
theorem load_map {G : AHeap} {id : Nat} (h : G[id]? = some (.cells true 0 (rulesC kind deg num den step v))) : loadNR 1 (.pointer (some ⟨id, 5, none⟩)) G = some (.agg ⟨[v]⟩, G) := loadN_at h (by simp [rulesC])
end
end Go.Lq


namespace Go.Lq
open Go
open Go.Proofs

theorem ratio_E {num den step : Int} {n : Nat} : firstErr [(if decide ((1 ≤ num ∧ num ≤ 1000) ∧ (1 ≤ den ∧ den ≤ 1000)) = true then 0 else 2), (if decide (step = 0 ∧ (n : Int) = 0) = true then 0 else 3)] = ratioErrL num den step n := by
  unfold ratioErrL
  simp only [decide_eq_true_eq]
theorem curve_E {l : List (Int × Int)} {num den step : Int} : firstErr [mapErrL l, (if decide (1 ≤ step ∧ step ≤ 1000000000000) = true then 0 else 2), (if decide (num = 0 ∧ den = 0) = true then 0 else 3)] = curveErrL l step num den := by
  unfold curveErrL
  simp only [decide_eq_true_eq]
section
variable {H : AHeap} {kind deg num den step : Int} {l : List (Int × Int)} {v : Value}
set_option maxHeartbeats 4000000 in
theorem checkRules_c (hl : Pairs H l v) (hb : l.length ≤ 1000000000) : ACall Go.Proofs.Tryd.prog 33 [rulesV kind deg num den step v] H fun w H' => w = .int .i64 (rulesErrL kind deg num den step l) ∧ H' = H := by
  refine ACall.drop (.int _ _) ?_
  (refine a33 ?_; simp only [n33, List.replicate, yq, yr, yt, yu]; first | refine q1 ?_ | refine q2 ?_ | refine q6 ?_ | refine q7 ?_ | refine qh rfl ?_ | skip)
  have g0 : (H ++ [AObj.cells true 0 (rulesC kind deg num den step v)])[H.length]? = some (.cells true 0 (rulesC kind deg num den step v)) := at_new
  have xG : Ext H (H ++ [AObj.cells true 0 (rulesC kind deg num den step v)]) := (Ext.refl H).app _
  (repeat (first | refine ya (by (with_reducible constructor) <;> first | rfl | decide) ?_ | (apply yd; simp (disch := first | exact yn | omega | (simp only [go_sem]; done) | (simp only [ln, ym]; omega) | (repeat' first | assumption | exact yo _ | refine yp ?_ _)) only [go_sem, box_rules hl.atom]; with_reducible rfl)))
  generalize (H ++ [AObj.cells true 0 (rulesC kind deg num den step v)] : AHeap) = G at g0 xG
  have hl1 := hl.ext xG
  ((repeat (first | refine ya (by (with_reducible constructor) <;> first | rfl | decide) ?_ | apply yb | refine yc rfl ?_ | ((first | apply yd | apply ye); simp (disch := first | exact yn | omega | (simp only [go_sem]; done) | (simp only [ln, ym]; omega) | (repeat' first | assumption | exact yo _ | refine yp ?_ _)) only [go_sem, load_at g0, rulesC]; with_reducible rfl))))
  refine adraw_call (N := []) (firstD (within_c _ _ _)) ?_
  rw [List.append_nil]
  ((repeat (first | refine ya (by (with_reducible constructor) <;> first | rfl | decide) ?_ | apply yb | refine yc rfl ?_ | ((first | apply yd | apply ye); simp (disch := first | exact yn | omega | (simp only [go_sem]; done) | (simp only [ln, ym]; omega) | (repeat' first | assumption | exact yo _ | refine yp ?_ _)) only [go_sem]; with_reducible rfl))))
  refine adraw_call (N := []) (firstD (unless_c _ _)) ?_
  rw [List.append_nil]
  ((repeat (first | refine ya (by (with_reducible constructor) <;> first | rfl | decide) ?_ | apply yb | refine yc rfl ?_ | ((first | apply yd | apply ye); simp (disch := first | exact yn | omega | (simp only [go_sem]; done) | (simp only [ln, ym]; omega) | (repeat' first | assumption | exact yo _ | refine yp ?_ _)) only [go_sem, load_at g0, rulesC]; with_reducible rfl))))
  refine adraw_call (N := []) (firstD (degreeErr_c _)) ?_
  rw [List.append_nil]
  ((repeat (first | refine ya (by (with_reducible constructor) <;> first | rfl | decide) ?_ | apply yb | refine yc rfl ?_ | ((first | apply yd | apply ye); simp (disch := first | exact yn | omega | (simp only [go_sem]; done) | (simp only [ln, ym]; omega) | (repeat' first | assumption | exact yo _ | refine yp ?_ _)) only [go_sem]; with_reducible rfl))))
  refine adraw_call (N := []) (firstD (first_c (l := [_, _]) (Ints.last (l := [_, _]) 2) (by simp))) ?_
  rw [List.append_nil]
  by_cases hk : 0 ≤ kind ∧ kind ≤ 1
  rotate_left 1
  · have ev : rulesErrL kind deg num den step l = 15 := by unfold rulesErrL; rw [if_neg hk]
    rw [ev]
    ((repeat (first | refine ya (by (with_reducible constructor) <;> first | rfl | decide) ?_ | apply yb | refine yc rfl ?_ | ((first | apply yd | apply ye); simp (disch := first | exact yn | omega | (simp only [go_sem]; done) | (simp only [ln, ym]; omega) | (repeat' first | assumption | exact yo _ | refine yp ?_ _)) only [go_sem, dec_f hk, ite_ft, firstErr_e (show (15 : Int) ≠ 0 by decide)]; with_reducible rfl))))
    refine cond_t rfl ?_
    ((repeat (first | refine ya (by (with_reducible constructor) <;> first | rfl | decide) ?_ | apply yb | refine yc rfl ?_ | ((first | apply yd | apply ye); simp (disch := first | exact yn | omega | (simp only [go_sem]; done) | (simp only [ln, ym]; omega) | (repeat' first | assumption | exact yo _ | refine yp ?_ _)) only [go_sem]; with_reducible rfl))))
    exact fin_1 ⟨rfl, xG.app _⟩
  by_cases hd : degErrL deg = 0
  rotate_left 1
  · have ev : rulesErrL kind deg num den step l = degErrL deg := by unfold rulesErrL; rw [if_pos hk, if_neg hd]
    rw [ev]
    ((repeat (first | refine ya (by (with_reducible constructor) <;> first | rfl | decide) ?_ | apply yb | refine yc rfl ?_ | ((first | apply yd | apply ye); simp (disch := first | exact yn | omega | (simp only [go_sem]; done) | (simp only [ln, ym]; omega) | (repeat' first | assumption | exact yo _ | refine yp ?_ _)) only [go_sem, dec_t hk, ite_tt, firstErr_z, firstErr_e hd, dec_t (show degErrL deg ≠ 0 from hd)]; with_reducible rfl))))
    refine cond_t rfl ?_
    ((repeat (first | refine ya (by (with_reducible constructor) <;> first | rfl | decide) ?_ | apply yb | refine yc rfl ?_ | ((first | apply yd | apply ye); simp (disch := first | exact yn | omega | (simp only [go_sem]; done) | (simp only [ln, ym]; omega) | (repeat' first | assumption | exact yo _ | refine yp ?_ _)) only [go_sem]; with_reducible rfl))))
    exact fin_1 ⟨rfl, xG.app _⟩
  ((repeat (first | refine ya (by (with_reducible constructor) <;> first | rfl | decide) ?_ | apply yb | refine yc rfl ?_ | ((first | apply yd | apply ye); simp (disch := first | exact yn | omega | (simp only [go_sem]; done) | (simp only [ln, ym]; omega) | (repeat' first | assumption | exact yo _ | refine yp ?_ _)) only [go_sem, dec_t hk, ite_tt, firstErr_z, hd, firstErr_nil]; with_reducible rfl))))
  refine cond_f rfl ?_
  have x2 : Ext G (G ++ [AObj.cells true 1 [.int .i64 0, .int .i64 0]]) := (Ext.refl G).app _
  generalize (G ++ [AObj.cells true 1 [.int .i64 0, .int .i64 0]] : AHeap) = G2 at x2
  have xH2 := xG.trans x2
  have k0 := x2.cell g0
  have hl2 := hl.ext xH2
  by_cases h0 : kind = 0
  · have ev : rulesErrL kind deg num den step l = ratioErrL num den step l.length := by unfold rulesErrL; rw [if_pos hk, if_pos hd, if_pos h0]
    rw [ev, ← ratio_E]
    ((repeat (first | refine ya (by (with_reducible constructor) <;> first | rfl | decide) ?_ | apply yb | refine yc rfl ?_ | ((first | apply yd | apply ye); simp (disch := first | exact yn | omega | (simp only [go_sem]; done) | (simp only [ln, ym]; omega) | (repeat' first | assumption | exact yo _ | refine yp ?_ _)) only [go_sem, load_at k0, rulesC, dec_t h0]; with_reducible rfl))))
    refine cond_t rfl ?_
    ((repeat (first | refine ya (by (with_reducible constructor) <;> first | rfl | decide) ?_ | apply yb | refine yc rfl ?_ | ((first | apply yd | apply ye); simp (disch := first | exact yn | omega | (simp only [go_sem]; done) | (simp only [ln, ym]; omega) | (repeat' first | assumption | exact yo _ | refine yp ?_ _)) only [go_sem, load_at k0, rulesC]; with_reducible rfl))))
    refine adraw_call (N := []) (firstD (checkRules1_c _)) ?_
    rw [List.append_nil]
    by_cases hn : 1 ≤ num ∧ num ≤ 1000
    · ((repeat (first | refine ya (by (with_reducible constructor) <;> first | rfl | decide) ?_ | apply yb | refine yc rfl ?_ | ((first | apply yd | apply ye); simp (disch := first | exact yn | omega | (simp only [go_sem]; done) | (simp only [ln, ym]; omega) | (repeat' first | assumption | exact yo _ | refine yp ?_ _)) only [go_sem, dec_t hn, load_at k0, rulesC]; with_reducible rfl))))
      refine adraw_call (N := []) (firstD (checkRules1_c _)) ?_
      rw [List.append_nil]
      ((repeat (first | refine ya (by (with_reducible constructor) <;> first | rfl | decide) ?_ | apply yb | refine yc rfl ?_ | ((first | apply yd | apply ye); simp (disch := first | exact yn | omega | (simp only [go_sem]; done) | (simp only [ln, ym]; omega) | (repeat' first | assumption | exact yo _ | refine yp ?_ _)) only [go_sem, dec_t hn]; with_reducible rfl))))
      refine adraw_call (N := []) (firstD (unless_c _ _)) ?_
      rw [List.append_nil]
      by_cases hs : step = 0
      · ((repeat (first | refine ya (by (with_reducible constructor) <;> first | rfl | decide) ?_ | apply yb | refine yc rfl ?_ | ((first | apply yd | apply ye); simp (disch := first | exact yn | omega | (simp only [go_sem]; done) | (simp only [ln, ym]; omega) | (repeat' first | assumption | exact yo _ | refine yp ?_ _)) only [go_sem, hl2.len, hl2.idx, hl2.load, load_at k0, rulesC, dec_t hs]; with_reducible rfl))))
        refine adraw_call (N := []) (firstD (unless_c _ _)) ?_
        rw [List.append_nil]
        ((repeat (first | refine ya (by (with_reducible constructor) <;> first | rfl | decide) ?_ | apply yb | refine yc rfl ?_ | ((first | apply yd | apply ye); simp (disch := first | exact yn | omega | (simp only [go_sem]; done) | (simp only [ln, ym]; omega) | (repeat' first | assumption | exact yo _ | refine yp ?_ _)) only [go_sem]; with_reducible rfl))))
        refine adraw_call (N := []) (firstD (first_c (l := [_, _]) (Ints.last (l := [_, _]) 2) (by simp))) ?_
        rw [List.append_nil]
        ((repeat (first | refine ya (by (with_reducible constructor) <;> first | rfl | decide) ?_ | apply yb | refine yc rfl ?_ | ((first | apply yd | apply ye); simp (disch := first | exact yn | omega | (simp only [go_sem]; done) | (simp only [ln, ym]; omega) | (repeat' first | assumption | exact yo _ | refine yp ?_ _)) only [go_sem]; with_reducible rfl))))
        exact fin_1 ⟨by simp [hn, hs], xH2.app _⟩
      · ((repeat (first | refine ya (by (with_reducible constructor) <;> first | rfl | decide) ?_ | apply yb | refine yc rfl ?_ | ((first | apply yd | apply ye); simp (disch := first | exact yn | omega | (simp only [go_sem]; done) | (simp only [ln, ym]; omega) | (repeat' first | assumption | exact yo _ | refine yp ?_ _)) only [go_sem, hl2.len, hl2.idx, hl2.load, load_at k0, rulesC, dec_f hs]; with_reducible rfl))))
        refine adraw_call (N := []) (firstD (unless_c _ _)) ?_
        rw [List.append_nil]
        ((repeat (first | refine ya (by (with_reducible constructor) <;> first | rfl | decide) ?_ | apply yb | refine yc rfl ?_ | ((first | apply yd | apply ye); simp (disch := first | exact yn | omega | (simp only [go_sem]; done) | (simp only [ln, ym]; omega) | (repeat' first | assumption | exact yo _ | refine yp ?_ _)) only [go_sem]; with_reducible rfl))))
        refine adraw_call (N := []) (firstD (first_c (l := [_, _]) (Ints.last (l := [_, _]) 2) (by simp))) ?_
        rw [List.append_nil]
        ((repeat (first | refine ya (by (with_reducible constructor) <;> first | rfl | decide) ?_ | apply yb | refine yc rfl ?_ | ((first | apply yd | apply ye); simp (disch := first | exact yn | omega | (simp only [go_sem]; done) | (simp only [ln, ym]; omega) | (repeat' first | assumption | exact yo _ | refine yp ?_ _)) only [go_sem]; with_reducible rfl))))
        exact fin_1 ⟨by simp [hn, hs], xH2.app _⟩
    · ((repeat (first | refine ya (by (with_reducible constructor) <;> first | rfl | decide) ?_ | apply yb | refine yc rfl ?_ | ((first | apply yd | apply ye); simp (disch := first | exact yn | omega | (simp only [go_sem]; done) | (simp only [ln, ym]; omega) | (repeat' first | assumption | exact yo _ | refine yp ?_ _)) only [go_sem, dec_f hn]; with_reducible rfl))))
      refine adraw_call (N := []) (firstD (unless_c _ _)) ?_
      rw [List.append_nil]
      by_cases hs : step = 0
      · ((repeat (first | refine ya (by (with_reducible constructor) <;> first | rfl | decide) ?_ | apply yb | refine yc rfl ?_ | ((first | apply yd | apply ye); simp (disch := first | exact yn | omega | (simp only [go_sem]; done) | (simp only [ln, ym]; omega) | (repeat' first | assumption | exact yo _ | refine yp ?_ _)) only [go_sem, hl2.len, hl2.idx, hl2.load, load_at k0, rulesC, dec_t hs]; with_reducible rfl))))
        refine adraw_call (N := []) (firstD (unless_c _ _)) ?_
        rw [List.append_nil]
        ((repeat (first | refine ya (by (with_reducible constructor) <;> first | rfl | decide) ?_ | apply yb | refine yc rfl ?_ | ((first | apply yd | apply ye); simp (disch := first | exact yn | omega | (simp only [go_sem]; done) | (simp only [ln, ym]; omega) | (repeat' first | assumption | exact yo _ | refine yp ?_ _)) only [go_sem]; with_reducible rfl))))
        refine adraw_call (N := []) (firstD (first_c (l := [_, _]) (Ints.last (l := [_, _]) 2) (by simp))) ?_
        rw [List.append_nil]
        ((repeat (first | refine ya (by (with_reducible constructor) <;> first | rfl | decide) ?_ | apply yb | refine yc rfl ?_ | ((first | apply yd | apply ye); simp (disch := first | exact yn | omega | (simp only [go_sem]; done) | (simp only [ln, ym]; omega) | (repeat' first | assumption | exact yo _ | refine yp ?_ _)) only [go_sem]; with_reducible rfl))))
        exact fin_1 ⟨by simp [hn, hs, firstErr], xH2.app _⟩
      · ((repeat (first | refine ya (by (with_reducible constructor) <;> first | rfl | decide) ?_ | apply yb | refine yc rfl ?_ | ((first | apply yd | apply ye); simp (disch := first | exact yn | omega | (simp only [go_sem]; done) | (simp only [ln, ym]; omega) | (repeat' first | assumption | exact yo _ | refine yp ?_ _)) only [go_sem, hl2.len, hl2.idx, hl2.load, load_at k0, rulesC, dec_f hs]; with_reducible rfl))))
        refine adraw_call (N := []) (firstD (unless_c _ _)) ?_
        rw [List.append_nil]
        ((repeat (first | refine ya (by (with_reducible constructor) <;> first | rfl | decide) ?_ | apply yb | refine yc rfl ?_ | ((first | apply yd | apply ye); simp (disch := first | exact yn | omega | (simp only [go_sem]; done) | (simp only [ln, ym]; omega) | (repeat' first | assumption | exact yo _ | refine yp ?_ _)) only [go_sem]; with_reducible rfl))))
        refine adraw_call (N := []) (firstD (first_c (l := [_, _]) (Ints.last (l := [_, _]) 2) (by simp))) ?_
        rw [List.append_nil]
        ((repeat (first | refine ya (by (with_reducible constructor) <;> first | rfl | decide) ?_ | apply yb | refine yc rfl ?_ | ((first | apply yd | apply ye); simp (disch := first | exact yn | omega | (simp only [go_sem]; done) | (simp only [ln, ym]; omega) | (repeat' first | assumption | exact yo _ | refine yp ?_ _)) only [go_sem]; with_reducible rfl))))
        exact fin_1 ⟨by simp [hn, hs, firstErr], xH2.app _⟩
  have ev : rulesErrL kind deg num den step l = curveErrL l step num den := by unfold rulesErrL; rw [if_pos hk, if_pos hd, if_neg h0]
  rw [ev, ← curve_E]
  ((repeat (first | refine ya (by (with_reducible constructor) <;> first | rfl | decide) ?_ | apply yb | refine yc rfl ?_ | ((first | apply yd | apply ye); simp (disch := first | exact yn | omega | (simp only [go_sem]; done) | (simp only [ln, ym]; omega) | (repeat' first | assumption | exact yo _ | refine yp ?_ _)) only [go_sem, load_at k0, rulesC, dec_f h0]; with_reducible rfl))))
  refine cond_f rfl ?_
  ((repeat (first | refine ya (by (with_reducible constructor) <;> first | rfl | decide) ?_ | apply yb | refine yc rfl ?_ | ((first | apply yd | apply ye); simp (disch := first | exact yn | omega | (simp only [go_sem]; done) | (simp only [ln, ym]; omega) | (repeat' first | assumption | exact yo _ | refine yp ?_ _)) only [go_sem, load_map k0]; with_reducible rfl))))
  refine aops_call_to (spCheckMap_c hl2 hb) ?_
  have em : (ckMap l).2 = mapErrL l := rfl
  rw [em]
  ((repeat (first | refine ya (by (with_reducible constructor) <;> first | rfl | decide) ?_ | apply yb | refine yc rfl ?_ | ((first | apply yd | apply ye); simp (disch := first | exact yn | omega | (simp only [go_sem]; done) | (simp only [ln, ym]; omega) | (repeat' first | assumption | exact yo _ | refine yp ?_ _)) only [go_sem, load_at k0, rulesC]; with_reducible rfl))))
  refine adraw_call (N := []) (firstD (within_c _ _ _)) ?_
  rw [List.append_nil]
  ((repeat (first | refine ya (by (with_reducible constructor) <;> first | rfl | decide) ?_ | apply yb | refine yc rfl ?_ | ((first | apply yd | apply ye); simp (disch := first | exact yn | omega | (simp only [go_sem]; done) | (simp only [ln, ym]; omega) | (repeat' first | assumption | exact yo _ | refine yp ?_ _)) only [go_sem]; with_reducible rfl))))
  refine adraw_call (N := []) (firstD (unless_c _ _)) ?_
  rw [List.append_nil]
  by_cases hs : num = 0
  · ((repeat (first | refine ya (by (with_reducible constructor) <;> first | rfl | decide) ?_ | apply yb | refine yc rfl ?_ | ((first | apply yd | apply ye); simp (disch := first | exact yn | omega | (simp only [go_sem]; done) | (simp only [ln, ym]; omega) | (repeat' first | assumption | exact yo _ | refine yp ?_ _)) only [go_sem, load_at k0, rulesC, dec_t hs]; with_reducible rfl))))
    refine adraw_call (N := []) (firstD (unless_c _ _)) ?_
    rw [List.append_nil]
    ((repeat (first | refine ya (by (with_reducible constructor) <;> first | rfl | decide) ?_ | apply yb | refine yc rfl ?_ | ((first | apply yd | apply ye); simp (disch := first | exact yn | omega | (simp only [go_sem]; done) | (simp only [ln, ym]; omega) | (repeat' first | assumption | exact yo _ | refine yp ?_ _)) only [go_sem]; with_reducible rfl))))
    refine adraw_call (N := []) (firstD (first_c (l := [_, _, _]) (Ints.last (l := [_, _, _]) 3) (by simp))) ?_
    rw [List.append_nil]
    ((repeat (first | refine ya (by (with_reducible constructor) <;> first | rfl | decide) ?_ | apply yb | refine yc rfl ?_ | ((first | apply yd | apply ye); simp (disch := first | exact yn | omega | (simp only [go_sem]; done) | (simp only [ln, ym]; omega) | (repeat' first | assumption | exact yo _ | refine yp ?_ _)) only [go_sem]; with_reducible rfl))))
    exact fin_1 ⟨by simp [hs], xH2.app _⟩
  · ((repeat (first | refine ya (by (with_reducible constructor) <;> first | rfl | decide) ?_ | apply yb | refine yc rfl ?_ | ((first | apply yd | apply ye); simp (disch := first | exact yn | omega | (simp only [go_sem]; done) | (simp only [ln, ym]; omega) | (repeat' first | assumption | exact yo _ | refine yp ?_ _)) only [go_sem, load_at k0, rulesC, dec_f hs]; with_reducible rfl))))
    refine adraw_call (N := []) (firstD (unless_c _ _)) ?_
    rw [List.append_nil]
    ((repeat (first | refine ya (by (with_reducible constructor) <;> first | rfl | decide) ?_ | apply yb | refine yc rfl ?_ | ((first | apply yd | apply ye); simp (disch := first | exact yn | omega | (simp only [go_sem]; done) | (simp only [ln, ym]; omega) | (repeat' first | assumption | exact yo _ | refine yp ?_ _)) only [go_sem]; with_reducible rfl))))
    refine adraw_call (N := []) (firstD (first_c (l := [_, _, _]) (Ints.last (l := [_, _, _]) 3) (by simp))) ?_
    rw [List.append_nil]
    ((repeat (first | refine ya (by (with_reducible constructor) <;> first | rfl | decide) ?_ | apply yb | refine yc rfl ?_ | ((first | apply yd | apply ye); simp (disch := first | exact yn | omega | (simp only [go_sem]; done) | (simp only [ln, ym]; omega) | (repeat' first | assumption | exact yo _ | refine yp ?_ _)) only [go_sem]; with_reducible rfl))))
    exact fin_1 ⟨by simp [hs], xH2.app _⟩
end
end Go.Lq

namespace Go.Lq
open Go
open Go.Proofs

def GenX (P : Program) (f : FuncId) (xs ys : List Value) (Fact : AHeap → Prop) (items : List (List Value)) (inf : Bool) : Prop :=
  ∀ (l : Nat) (I : List (List Value) → AHeap → Prop) (S : AHeap → Prop) (H : AHeap), (∀ rest H, I rest H → Fact H) → (∀ rest H N, I rest H → I rest (H ++ N)) → (inf = true → ∀ H, ¬ I [] H) →
    (∀ a rest H, I (a :: rest) H → ARound P l a H fun v H' => (v = .bool true ∧ I rest H') ∨ (v = .bool false ∧ S H')) → I items H → ACall P f (xs ++ [.func (.yield l) #[] #[]] ++ ys) H fun _ H' => I [] H' ∨ S H'
section
variable {P : Program} {ar : Option Nat} {g : Operand} {f : FuncId} {xs ys : List Value} {ps : List Nat} {assign body : RCode} {Q : AExit → Env → AHeap → Prop} {env : Env} {H : AHeap} {Fact : AHeap → Prop} {items : List (List Value)} {inf : Bool}
theorem awp_rangeX (hm : P.follows .mixedOrders = true) (hg : evalA env g = .func (.func f) ⟨xs⟩ ⟨ys⟩) (har : ∀ l, ar = some l → ∃ r, H[l]? = some (.loop r)) (hgen : GenX P f xs ys Fact items inf)
    (J : List (List Value) → AHeap → Prop) (S : AExit → AHeap → Prop) (hJ : ∀ rest H' c, J rest H' → J rest (H'.set H.length c)) (hS : ∀ x H' c, S x H' → S x (H'.set H.length c)) (hF : ∀ rest H', J rest H' → Fact H')
    (happ : ∀ rest H' N, J rest H' → J rest (H' ++ N)) (hinf : inf = true → ∀ H', ¬ J [] H')
    (h0 : ∀ N, J items (H ++ N))
    (hbody : ∀ a rest H1, J (a :: rest) H1 → H.length < H1.length → a.length = ps.length ∧ Round P H.length assign body (assignParams env ps a) H1 (J rest) S)
    (hend : ∀ H', J [] H' → Q .normal env H') (hstop : ∀ x H', x ≠ .normal → S x H' → Q x env H') : AWP P ar (.rangeFunc g ps assign body) Q env H := by
  refine awp_rangeFunc hg har ?_
  show ACall P f _ (H ++ [.loop (recOf env ps assign body)]) _
  refine (hgen H.length (fun rest H' => J rest H' ∧ H'[H.length]? = some (.loop (recOf env ps assign body)))
    (fun H' => ∃ x, x ≠ .normal ∧ S x H' ∧ H'[H.length]? = some (.loop { recOf env ps assign body with state := .done, pending := some x })) _ (fun rest H' h => hF rest H' h.1)
    (fun rest H' N h => ⟨happ _ _ N h.1, at_app h.2⟩) (fun hi H' h => hinf hi H' h.1) (fun a rest H1 ⟨h1, h2⟩ => ?_) ⟨h0 _, by simp⟩).mono fun _ H' h => ?_
  · refine round_of hm (hbody a rest H1 h1 (List.getElem?_eq_some_iff.1 h2).1).1 (hbody a rest H1 h1 (List.getElem?_eq_some_iff.1 h2).1).2 h2 rfl rfl (fun H' c h _ => hJ _ _ _ h) (fun H' h3 h4 => .inl ⟨rfl, h4, h3⟩) fun H' x hn h3 ⟨H3, h4, e⟩ => .inr ⟨rfl, x, hn, ?_, h3⟩
    rw [e]; exact hS _ _ _ h4
  · rcases h with ⟨h1, h2⟩ | ⟨x, hn, h1, h2⟩
    · exact rangeEnd_n h2 rfl rfl fun c => hend _ (hJ _ _ _ h1)
    · exact rangeEnd_x hn h2 fun c => hstop x _ hn (hS _ _ _ h1)
end

def streamI (f : Nat → Int) (k : Nat) : Nat → List (List Value)
  | 0 => []
  | n + 1 => [.int .i64 (f k)] :: streamI f (k + 1) n
def outN (f : Nat → Int) (B : Int) (k : Nat) : Nat → Nat × Int
  | 0 => (k, 0)
  | n + 1 => if B < f k then (k, 0) else if k = 2000 then (0, 8) else outN f B (k + 1) n
theorem outN_succ {f : Nat → Int} {B : Int} {k n : Nat} : outN f B k (n + 1) = if B < f k then (k, 0) else if k = 2000 then (0, 8) else outN f B (k + 1) n := rfl
def ratioF (num den : Int) (k : Nat) : Int := 64 * k * num / den

section
variable {H : AHeap} {kind deg num den step : Int} {v : Value}
set_option maxHeartbeats 4000000 in
theorem positions1_c {idr : Nat} (hn : 1 ≤ num ∧ num ≤ 1000) (hd : 1 ≤ den ∧ den ≤ 1000) :
    GenX Go.Proofs.Tryd.prog 146 [] [.pointer (some ⟨idr, 0, none⟩)] (fun H => H[idr]? = some (.cells true 0 (rulesC kind deg num den step v))) (streamI (ratioF num den) 0 2001) true := by
  intro lp I S H hF happ hinf hround hI0
  show ACall _ _ [.func (.yield lp) #[] #[], .pointer (some ⟨idr, 0, none⟩)] _ _
  (refine a146 ?_; simp only [n146, List.replicate, yq, yr, yt, yu]; first | refine q1 ?_ | refine q2 ?_ | refine q6 ?_ | refine q7 ?_ | refine qh rfl ?_ | skip)
  ((repeat (first | refine ya (by (with_reducible constructor) <;> first | rfl | decide) ?_ | apply yb | refine yc rfl ?_ | ((first | apply yd | apply ye); simp (disch := first | exact yn | omega | (simp only [go_sem]; done) | (simp only [ln, ym]; omega) | (repeat' first | assumption | exact yo _ | refine yp ?_ _)) only [go_sem]; with_reducible rfl))))
  refine awp_loop_n [true, true, false, true, false, false, false, false, false, false, false, false, false, false, false, false] 2001 (fun i e H' => e = [.func (.yield lp) #[] #[], .pointer (some ⟨idr, 0, none⟩), junk, .int .i64 i, junk, junk, junk, junk, junk, junk, junk, junk, junk, junk, junk, junk] ∧ I (streamI (ratioF num den) i (2001 - i)) H') ?_ ?_
  · exact ⟨by simp [forget], hI0⟩
  rintro i e H1 hi ⟨rfl, hI⟩
  have hi' : i < 2001 := by
    refine Decidable.byContradiction fun h => ?_
    obtain rfl : i = 2001 := by omega
    exact hinf rfl _ hI
  have g0 := hF _ _ hI
  obtain ⟨k, hk⟩ : ∃ k, k = 2001 - (i + 1) := ⟨_, rfl⟩
  rw [show 2001 - i = k + 1 by omega] at hI
  have m1 : 0 ≤ 64 * (i : Int) * num := Int.mul_nonneg (by omega) (by omega)
  have m2 : 64 * (i : Int) * num ≤ 64 * (i : Int) * 1000 := Int.mul_le_mul_of_nonneg_left (by omega) (by omega)
  have e1 : (64 * (i : Int) * num).tdiv den = ratioF num den i := Int.tdiv_eq_ediv_of_nonneg m1
  have b1 : ratioF num den i ≤ 128000000 := Int.le_trans (Int.ediv_le_self _ m1) (by omega)
  have b0 : 0 ≤ ratioF num den i := Int.ediv_nonneg m1 (by omega)
  ((repeat (first | refine ya (by (with_reducible constructor) <;> first | rfl | decide) ?_ | apply yb | refine yc rfl ?_ | ((first | apply yd | apply ye); simp (disch := first | exact yn | omega | (simp only [go_sem]; done) | (simp only [ln, ym]; omega) | (repeat' first | assumption | exact yo _ | refine yp ?_ _)) only [go_sem, load_at g0, rulesC, a_quo (show den ≠ 0 by omega), e1]; with_reducible rfl))))
  refine aops_call ((hround _ _ _ hI).mono fun v1 H3 h => ?_)
  rcases h with ⟨rfl, hI3⟩ | ⟨rfl, hS⟩
  · ((repeat (first | refine ya (by (with_reducible constructor) <;> first | rfl | decide) ?_ | apply yb | refine yc rfl ?_ | ((first | apply yd | apply ye); simp (disch := first | exact yn | omega | (simp only [go_sem]; done) | (simp only [ln, ym]; omega) | (repeat' first | assumption | exact yo _ | refine yp ?_ _)) only [go_sem]; with_reducible rfl))))
    refine cond_t rfl ?_
    ((repeat (first | refine ya (by (with_reducible constructor) <;> first | rfl | decide) ?_ | apply yb | refine yc rfl ?_ | ((first | apply yd | apply ye); simp (disch := first | exact yn | omega | (simp only [go_sem]; done) | (simp only [ln, ym]; omega) | (repeat' first | assumption | exact yo _ | refine yp ?_ _)) only [go_sem]; with_reducible rfl))))
    exact ⟨by omega, by simp [forget], by rw [← hk]; exact hI3⟩
  · ((repeat (first | refine ya (by (with_reducible constructor) <;> first | rfl | decide) ?_ | apply yb | refine yc rfl ?_ | ((first | apply yd | apply ye); simp (disch := first | exact yn | omega | (simp only [go_sem]; done) | (simp only [ln, ym]; omega) | (repeat' first | assumption | exact yo _ | refine yp ?_ _)) only [go_sem]; with_reducible rfl))))
    refine cond_f rfl ?_
    ((repeat (first | refine ya (by (with_reducible constructor) <;> first | rfl | decide) ?_ | apply yb | refine yc rfl ?_ | ((first | apply yd | apply ye); simp (disch := first | exact yn | omega | (simp only [go_sem]; done) | (simp only [ln, ym]; omega) | (repeat' first | assumption | exact yo _ | refine yp ?_ _)) only [go_sem]; with_reducible rfl))))
    exact ⟨.inl rfl, undef, rfl, .inr hS⟩
end
end Go.Lq

namespace Go.Lq
open Go
open Go.Proofs

def t0L (l : List (Int × Int)) : Int := (l.getD 0 (0, 0)).2
def tEL (l : List (Int × Int)) : Int := (l.getD (l.length - 1) (0, 0)).2
def curveF (l : List (Int × Int)) (step : Int) (k : Nat) : Int := (posAtL l (t0L l + k * step)).1.1
def curveN (l : List (Int × Int)) (step : Int) : Nat := ((tEL l - t0L l) / step + 1).toNat
theorem MapOk.span {l : List (Int × Int)} (h : MapOk l) : 0 ≤ t0L l ∧ t0L l ≤ tEL l ∧ tEL l ≤ 1000000000000 := by
  have := h.lo
  exact ⟨(h.time 0 (by omega)).1, h.timeLe (Nat.zero_le _) (by omega), (h.time _ (by omega)).2⟩
theorem curveN_lt {l : List (Int × Int)} {step : Int} {k : Nat} (h : MapOk l) (hs : 0 < step) : k < curveN l step ↔ t0L l + k * step ≤ tEL l := by
  obtain ⟨h1, h2, h3⟩ := h.span
  have e := Int.le_ediv_iff_mul_le (a := (k : Int)) (b := tEL l - t0L l) hs
  have h0 : 0 ≤ (tEL l - t0L l) / step := Int.ediv_nonneg (by omega) (by omega)
  unfold curveN
  constructor
  · intro hk
    have := e.1 (by omega)
    omega
  · intro hk
    have := e.2 (by omega)
    omega
theorem posAt_in {l : List (Int × Int)} {t : Int} (h : MapOk l) (h0 : t0L l ≤ t) (h1 : t ≤ tEL l) :
    posAtL l t = ((posLo (pieceOf l (atTime l t 0 (l.length - 2))) t, posHi (pieceOf l (atTime l t 0 (l.length - 2))) t), 0) := by
  have hl := h.lo
  unfold posAtL
  rw [if_pos h.err, h.timeOne h0 (k := l.length - 1) (i := 0) (by omega) (fun m hm => by omega) h1, if_neg (by omega)]
  rfl
theorem curveF_eq {l : List (Int × Int)} {step : Int} {k : Nat} (h : MapOk l) (hs : 0 < step) (hk : k < curveN l step) :
    curveF l step k = posLo (pieceOf l (atTime l (t0L l + k * step) 0 (l.length - 2))) (t0L l + k * step) := by
  unfold curveF
  rw [posAt_in h (by have := Int.mul_nonneg (show (0 : Int) ≤ k by omega) (show 0 ≤ step by omega); omega) ((curveN_lt h hs).1 hk)]

section
variable {H : AHeap} {kind deg num den step : Int} {l : List (Int × Int)} {v : Value}
set_option maxHeartbeats 4000000 in
theorem positions2_c {idn idr : Nat} (hok : MapOk l) (hs : 1 ≤ step ∧ step ≤ 1000000000000) :
    GenX Go.Proofs.Tryd.prog 147 [] [.pointer (some ⟨idn, 0, none⟩), .pointer (some ⟨idr, 0, none⟩)]
      (fun H => H[idn]? = some (.cells true 0 [v]) ∧ H[idr]? = some (.cells true 0 (rulesC kind deg num den step v)) ∧ Pairs H l v) (streamI (curveF l step) 0 (curveN l step)) false := by
  intro lp I S H hF happ hinf hround hI0
  show ACall _ _ [.func (.yield lp) #[] #[], .pointer (some ⟨idn, 0, none⟩), .pointer (some ⟨idr, 0, none⟩)] _ _
  obtain ⟨s1, s2, s3⟩ := hok.span
  have h02 := hok.lo
  have h20 := hok.hi
  obtain ⟨g0, g1, g2⟩ := hF _ _ hI0
  (refine a147 ?_; simp only [n147, List.replicate, yq, yr, yt, yu]; first | refine q1 ?_ | refine q2 ?_ | refine q6 ?_ | refine q7 ?_ | refine qh rfl ?_ | skip)
  have et : (l.getD 0 (0, 0)).2 = t0L l := rfl
  ((repeat (first | refine ya (by (with_reducible constructor) <;> first | rfl | decide) ?_ | apply yb | refine yc rfl ?_ | ((first | apply yd | apply ye); simp (disch := first | exact yn | omega | (simp only [go_sem]; done) | (simp only [ln, ym]; omega) | (repeat' first | assumption | exact yo _ | refine yp ?_ _)) only [go_sem, g2.len, g2.idx, g2.load, load_at g0, et]; with_reducible rfl))))
  refine awp_loop_n [true, true, true, false, true, false, false, false, false, false, false, false, false, false, false, false, false, false, false, false, false, false, false, false, false, false, false, false, false, false, false, false, false, false, false, false, false, false, false, false] (curveN l step) (fun i e H' => e = [.func (.yield lp) #[] #[], .pointer (some ⟨idn, 0, none⟩), .pointer (some ⟨idr, 0, none⟩), junk, .int .i64 (t0L l + i * step), junk, junk, junk, junk, junk, junk, junk, junk, junk, junk, junk, junk, junk, junk, junk, junk, junk, junk, junk, junk, junk, junk, junk, junk, junk, junk, junk, junk, junk, junk, junk, junk, junk, junk, junk] ∧ I (streamI (curveF l step) i (curveN l step - i)) H') ?_ ?_
  · exact ⟨by simp [forget, t0L], hI0⟩
  rintro i e H1 hi ⟨rfl, hI⟩
  obtain ⟨k0, k1, k2⟩ := hF _ _ hI
  have el : (l.length : Int) - 1 = ((l.length - 1 : Nat) : Int) := by omega
  have eE : (l.getD (l.length - 1) (0, 0)).2 = tEL l := rfl
  have m0 := Int.mul_nonneg (show (0 : Int) ≤ i by omega) (show 0 ≤ step by omega)
  have hlt := curveN_lt (k := i) hok (show 0 < step by omega)
  obtain ⟨z, hz⟩ : ∃ z, t0L l + (i : Int) * step = z := ⟨_, rfl⟩
  have hz1 : t0L l + ((i + 1 : Nat) : Int) * step = z + step := by
    rw [← hz, Int.natCast_add, Int.add_mul]; simp; omega
  by_cases hin : i < curveN l step
  rotate_left 1
  · obtain rfl : i = curveN l step := by omega
    rw [Nat.sub_self] at hI
    rw [hz] at hlt
    rw [hz]
    ((repeat (first | refine ya (by (with_reducible constructor) <;> first | rfl | decide) ?_ | apply yb | refine yc rfl ?_ | ((first | apply yd | apply ye); simp (disch := first | exact yn | omega | (simp only [go_sem]; done) | (simp only [ln, ym]; omega) | (repeat' first | assumption | exact yo _ | refine yp ?_ _)) only [go_sem, k2.len, k2.idx, k2.load, load_at k0, el, eE, dec_f (show ¬ z ≤ tEL l by omega)]; with_reducible rfl))))
    refine cond_f rfl ?_
    ((repeat (first | refine ya (by (with_reducible constructor) <;> first | rfl | decide) ?_ | apply yb | refine yc rfl ?_ | ((first | apply yd | apply ye); simp (disch := first | exact yn | omega | (simp only [go_sem]; done) | (simp only [ln, ym]; omega) | (repeat' first | assumption | exact yo _ | refine yp ?_ _)) only [go_sem]; with_reducible rfl))))
    exact ⟨.inl rfl, undef, rfl, .inl hI⟩
  have hzE := hlt.1 hin
  have hpa := posAt_in (t := z) hok (by omega) (by omega)
  have hcf : curveF l step i = (posAtL l z).1.1 := by unfold curveF; rw [hz]
  rw [hz] at hzE
  have he0 : (posAtL l z).2 = 0 := by rw [hpa]
  obtain ⟨n, hn⟩ : ∃ n, n = curveN l step - (i + 1) := ⟨_, rfl⟩
  rw [show curveN l step - i = n + 1 by omega] at hI
  have hI2 := happ _ _ [AObj.cells true 0 [.int .i64 (posAtL l z).1.1, .int .i64 (posAtL l z).1.2]] hI
  have b5 : (H1 ++ [AObj.cells true 0 [.int .i64 (posAtL l z).1.1, .int .i64 (posAtL l z).1.2]])[H1.length]? = some (.cells true 0 [.int .i64 (posAtL l z).1.1, .int .i64 (posAtL l z).1.2]) := at_new
  rw [hz]
  ((repeat (first | refine ya (by (with_reducible constructor) <;> first | rfl | decide) ?_ | apply yb | refine yc rfl ?_ | ((first | apply yd | apply ye); simp (disch := first | exact yn | omega | (simp only [go_sem]; done) | (simp only [ln, ym]; omega) | (repeat' first | assumption | exact yo _ | refine yp ?_ _)) only [go_sem, k2.len, k2.idx, k2.load, load_at k0, el, eE, dec_t hzE]; with_reducible rfl))))
  refine cond_t rfl ?_
  ((repeat (first | refine ya (by (with_reducible constructor) <;> first | rfl | decide) ?_ | apply yb | refine yc rfl ?_ | ((first | apply yd | apply ye); simp (disch := first | exact yn | omega | (simp only [go_sem]; done) | (simp only [ln, ym]; omega) | (repeat' first | assumption | exact yo _ | refine yp ?_ _)) only [go_sem, load_map k1]; with_reducible rfl))))
  refine aops_call_to (positionAt_c (t := z) k2 (by omega)) ?_
  rw [he0]
  have hround2 := hround _ _ _ hI2
  rw [hcf] at hround2
  ((repeat (first | refine ya (by (with_reducible constructor) <;> first | rfl | decide) ?_ | apply yb | refine yc rfl ?_ | ((first | apply yd | apply ye); simp (disch := first | exact yn | omega | (simp only [go_sem]; done) | (simp only [ln, ym]; omega) | (repeat' first | assumption | exact yo _ | refine yp ?_ _)) only [go_sem, store_newF, load_at b5]; with_reducible rfl))))
  refine aops_call (hround2.mono fun v1 H3 h => ?_)
  rcases h with ⟨rfl, hI3⟩ | ⟨rfl, hS⟩
  · obtain ⟨j0, j1, j2⟩ := hF _ _ hI3
    ((repeat (first | refine ya (by (with_reducible constructor) <;> first | rfl | decide) ?_ | apply yb | refine yc rfl ?_ | ((first | apply yd | apply ye); simp (disch := first | exact yn | omega | (simp only [go_sem]; done) | (simp only [ln, ym]; omega) | (repeat' first | assumption | exact yo _ | refine yp ?_ _)) only [go_sem]; with_reducible rfl))))
    refine cond_f rfl ?_
    ((repeat (first | refine ya (by (with_reducible constructor) <;> first | rfl | decide) ?_ | apply yb | refine yc rfl ?_ | ((first | apply yd | apply ye); simp (disch := first | exact yn | omega | (simp only [go_sem]; done) | (simp only [ln, ym]; omega) | (repeat' first | assumption | exact yo _ | refine yp ?_ _)) only [go_sem, load_at j1, rulesC]; with_reducible rfl))))
    exact ⟨by omega, by rw [hz1]; simp [forget], by rw [← hn]; exact hI3⟩
  · ((repeat (first | refine ya (by (with_reducible constructor) <;> first | rfl | decide) ?_ | apply yb | refine yc rfl ?_ | ((first | apply yd | apply ye); simp (disch := first | exact yn | omega | (simp only [go_sem]; done) | (simp only [ln, ym]; omega) | (repeat' first | assumption | exact yo _ | refine yp ?_ _)) only [go_sem]; with_reducible rfl))))
    refine cond_t rfl ?_
    ((repeat (first | refine ya (by (with_reducible constructor) <;> first | rfl | decide) ?_ | apply yb | refine yc rfl ?_ | ((first | apply yd | apply ye); simp (disch := first | exact yn | omega | (simp only [go_sem]; done) | (simp only [ln, ym]; omega) | (repeat' first | assumption | exact yo _ | refine yp ?_ _)) only [go_sem]; with_reducible rfl))))
    exact ⟨.inr rfl, undef, rfl, .inr hS⟩
end
end Go.Lq

namespace Go.Lq
open Go
open Go.Proofs

def outTo (f : Nat → Int) (k : Nat) : List Int := (List.range k).map f
theorem outTo_len (f : Nat → Int) (k : Nat) : (outTo f k).length = k := by simp [outTo]
theorem outTo_succ (f : Nat → Int) (k : Nat) : outTo f (k + 1) = outTo f k ++ [f k] := by simp [outTo, List.range_succ]
def outsL (f : Nat → Int) (N : Nat) (count : Int) : List Int × Int := (outTo f (outN f (64 * (count - 1)) 0 N).1, (outN f (64 * (count - 1)) 0 N).2)
theorem stream_nil {f : Nat → Int} {k n : Nat} (h : ([] : List (List Value)) = streamI f k n) : n = 0 := by
  cases n with
  | zero => rfl
  | succ n => cases h
theorem fin_2l {c : RCode} {n a b : Nat} {R : Value → AHeap → Prop} {e : Env} {H : AHeap} {u w : Value} (h1 : loadR (e.getD a undef) H = some (u, H)) (h2 : loadR (e.getD b undef) H = some (w, H)) (h : R (.tuple #[u, w]) H) :
    Fin ⟨c, n, [.load a, .load b]⟩ R .ret e H := by
  refine ⟨.inr rfl, _, ?_, h⟩
  unfold loadR at h1 h2
  split at h1
  · rename_i id off hp
    simp only [Option.map_eq_some_iff, Prod.mk.injEq, and_true] at h1
    obtain ⟨us, h3, rfl⟩ := h1
    split at h2
    · rename_i id' off' hp'
      simp only [Option.map_eq_some_iff, Prod.mk.injEq, and_true] at h2
      obtain ⟨us', h4, rfl⟩ := h2
      simp only [resultA, List.mapM_cons, resA, hp, h3, hp', h4, Option.map_some, List.mapM_nil]
      rfl
    · cases h2
  · cases h1

section
variable {H : AHeap} {kind deg num den step : Int} {l : List (Int × Int)} {v : Value}
theorem positionsR_c (hl : Pairs H l v) (h0 : kind = 0) : ACall Go.Proofs.Tryd.prog 132 [rulesV kind deg num den step v] H fun w H' =>
    w = .func (.func 146) #[] #[.pointer (some ⟨H.length, 0, none⟩)] ∧ H' = H ++ [.cells true 0 (rulesC kind deg num den step v)] := by
  (refine a132 ?_; simp only [n132, List.replicate, yq, yr, yt, yu]; first | refine q1 ?_ | refine q2 ?_ | refine q6 ?_ | refine q7 ?_ | refine qh rfl ?_ | skip)
  have g0 : (H ++ [AObj.cells true 0 (rulesC kind deg num den step v)])[H.length]? = some (.cells true 0 (rulesC kind deg num den step v)) := at_new
  have hk : loadR (.pointer (some ⟨H.length, 0, none⟩)) (H ++ [AObj.cells true 0 (rulesC kind deg num den step v)]) = some (.int .i64 kind, H ++ [AObj.cells true 0 (rulesC kind deg num den step v)]) := by rw [load_at g0]; rfl
  ((repeat (first | refine ya (by (with_reducible constructor) <;> first | rfl | decide) ?_ | apply yb | refine yc rfl ?_ | ((first | apply yd | apply ye); simp (disch := first | exact yn | omega | (simp only [go_sem]; done) | (simp only [ln, ym]; omega) | (repeat' first | assumption | exact yo _ | refine yp ?_ _)) only [go_sem, box_rules hl.atom, hk, dec_t h0]; with_reducible rfl))))
  refine cond_t rfl ?_
  ((repeat (first | refine ya (by (with_reducible constructor) <;> first | rfl | decide) ?_ | apply yb | refine yc rfl ?_ | ((first | apply yd | apply ye); simp (disch := first | exact yn | omega | (simp only [go_sem]; done) | (simp only [ln, ym]; omega) | (repeat' first | assumption | exact yo _ | refine yp ?_ _)) only [go_sem]; with_reducible rfl))))
  refine fin_1 ⟨?_, rfl⟩
  simp [go_sem]
theorem positionsC_c (hl : Pairs H l v) (h0 : ¬ kind = 0) : ACall Go.Proofs.Tryd.prog 132 [rulesV kind deg num den step v] H fun w H' =>
    w = .func (.func 147) #[] #[.pointer (some ⟨H.length + 1, 0, none⟩), .pointer (some ⟨H.length, 0, none⟩)] ∧ H' = H ++ [.cells true 0 (rulesC kind deg num den step v)] ++ [.cells true 0 [v]] := by
  (refine a132 ?_; simp only [n132, List.replicate, yq, yr, yt, yu]; first | refine q1 ?_ | refine q2 ?_ | refine q6 ?_ | refine q7 ?_ | refine qh rfl ?_ | skip)
  have g0 : (H ++ [AObj.cells true 0 (rulesC kind deg num den step v)])[H.length]? = some (.cells true 0 (rulesC kind deg num den step v)) := at_new
  have lG : (H ++ [AObj.cells true 0 (rulesC kind deg num den step v)]).length = H.length + 1 := by simp
  have hk : loadR (.pointer (some ⟨H.length, 0, none⟩)) (H ++ [AObj.cells true 0 (rulesC kind deg num den step v)]) = some (.int .i64 kind, H ++ [AObj.cells true 0 (rulesC kind deg num den step v)]) := by rw [load_at g0]; rfl
  have hm : loadR (.pointer (some ⟨H.length, 5, none⟩)) (H ++ [AObj.cells true 0 (rulesC kind deg num den step v)]) = some (v, H ++ [AObj.cells true 0 (rulesC kind deg num den step v)]) := by rw [load_at g0]; rfl
  ((repeat (first | refine ya (by (with_reducible constructor) <;> first | rfl | decide) ?_ | apply yb | refine yc rfl ?_ | ((first | apply yd | apply ye); simp (disch := first | exact yn | omega | (simp only [go_sem]; done) | (simp only [ln, ym]; omega) | (repeat' first | assumption | exact yo _ | refine yp ?_ _)) only [go_sem, box_rules hl.atom, hk, dec_f h0]; with_reducible rfl))))
  refine cond_f rfl ?_
  generalize (H ++ [AObj.cells true 0 (rulesC kind deg num den step v)] : AHeap) = G at g0 lG hm ⊢
  have hst : storeR 1 (.pointer (some ⟨G.length, 0, none⟩)) v (G ++ [AObj.cells true 0 [.slice none 0 0]]) = some (undef, G ++ [AObj.cells true 0 [v]]) := by
    have hc : v.cells = ⟨[v]⟩ := by rcases hl.2 with ⟨rfl, _⟩ | ⟨id, off, c, rfl, _⟩ <;> rfl
    rw [store_b1 (at_new : (G ++ [AObj.cells true 0 [.slice none 0 0]])[G.length]? = _) hl.atom hc]
    simp
  ((repeat (first | refine ya (by (with_reducible constructor) <;> first | rfl | decide) ?_ | apply yb | refine yc rfl ?_ | ((first | apply yd | apply ye); simp (disch := first | exact yn | omega | (simp only [go_sem]; done) | (simp only [ln, ym]; omega) | (repeat' first | assumption | exact yo _ | refine yp ?_ _)) only [go_sem, hm, hst]; with_reducible rfl))))
  refine fin_1 ⟨?_, rfl⟩
  simp [go_sem, lG]

set_option maxHeartbeats 8000000 in
theorem outputsR_c {count : Int} (hl : Pairs H l v) (h0 : kind = 0) (hn : 1 ≤ num ∧ num ≤ 1000) (hd : 1 ≤ den ∧ den ≤ 1000) (hcnt : 0 ≤ count ∧ count ≤ 400) : ACall Go.Proofs.Tryd.prog 90 [rulesV kind deg num den step v, .int .i64 count] H
    (IntsRes H (outsL (ratioF num den) (2001) count).1 (outsL (ratioF num den) (2001) count).2) := by
  refine ACall.intsE ?_
  (refine a90 ?_; simp only [n90, List.replicate, yq, yr, yt, yu]; first | refine q1 ?_ | refine q2 ?_ | refine q6 ?_ | refine q7 ?_ | refine qh rfl ?_ | skip)
  have hbi : ∀ J : AHeap, boxR (.int .i64 count) J = some (.pointer (some ⟨J.length, 0, none⟩), J ++ [.cells true 0 [.int .i64 count]]) := fun J => rfl
  obtain ⟨G, hG⟩ : ∃ G, G = H ++ [AObj.cells true 0 (rulesC kind deg num den step v)] ++ [AObj.cells true 0 [.int .i64 count]] ++ [AObj.cells true 0 [.slice none 0 0]] ++ [AObj.cells true 0 [.int .i64 0]] := ⟨_, rfl⟩
  have g0 : G[H.length]? = some (.cells true 0 (rulesC kind deg num den step v)) := by rw [hG]; simp
  have g1 : G[H.length + 1]? = some (.cells true 0 [.int .i64 count]) := by rw [hG]; simp
  have g2 : G[H.length + 2]? = some (.cells true 0 [.slice none 0 0]) := by rw [hG]; simp
  have g3 : G[H.length + 3]? = some (.cells true 0 [.int .i64 0]) := by rw [hG]; simp
  have xG : Ext H G := by rw [hG]; exact ((((Ext.refl H).app _).app _).app _).app _
  have lG : G.length = H.length + 4 := by rw [hG]; simp
  (repeat (first | refine ya (by (with_reducible constructor) <;> first | rfl | decide) ?_ | (apply yd; simp (disch := first | exact yn | omega | (simp only [go_sem]; done) | (simp only [ln, ym]; omega) | (repeat' first | assumption | exact yo _ | refine yp ?_ _)) only [go_sem, box_rules hl.atom, hbi]; with_reducible rfl)))
  (simp only [List.length_append, List.length_cons, List.length_nil, Nat.zero_add, Nat.add_assoc, Nat.reduceAdd])
  rw [← hG]
  clear hG
  obtain ⟨f, hf⟩ : ∃ f, f = ratioF num den := ⟨_, rfl⟩
  obtain ⟨N, hN⟩ : ∃ N, N = 2001 := ⟨_, rfl⟩
  obtain ⟨B, hB⟩ : ∃ B, 64 * (count - 1) = B := ⟨_, rfl⟩
  have ho : outsL (ratioF num den) (2001) count = (outTo f (outN f B 0 N).1, (outN f B 0 N).2) := by unfold outsL; rw [hf, hN, hB]
  rw [ho]
  have z0 := at_app (N := [AObj.cells true 0 [.slice none 0 0]]) g0
  have z4 : (G ++ [AObj.cells true 0 [.slice none 0 0]])[H.length + 4]? = some (.cells true 0 [.slice none 0 0]) := by rw [← lG]; exact at_new
  have x1 := (Ext.refl G).app [AObj.cells true 0 [.slice none 0 0]]
  have l1 : (G ++ [AObj.cells true 0 [.slice none 0 0]]).length = G.length + 1 := by simp
  have l6 : loadNR 6 (.pointer (some ⟨H.length, 0, none⟩)) (G ++ [AObj.cells true 0 [.slice none 0 0]]) = some (rulesV kind deg num den step v, G ++ [AObj.cells true 0 [.slice none 0 0]]) := loadN_at z0 (by simp [rulesC])
  ((repeat (first | refine ya (by (with_reducible constructor) <;> first | rfl | decide) ?_ | apply yb | refine yc rfl ?_ | ((first | apply yd | apply ye); simp (disch := first | exact yn | omega | (simp only [go_sem]; done) | (simp only [ln, ym]; omega) | (repeat' first | assumption | exact yo _ | refine yp ?_ _)) only [go_sem, l6]; with_reducible rfl))))
  generalize (G ++ [AObj.cells true 0 [.slice none 0 0]] : AHeap) = G1 at z0 z4 x1 l1 l6
  refine aops_call ((positionsR_c (hl.ext (xG.trans x1)) h0).mono fun v1 G3 ⟨e1, e2⟩ => ?_)
  subst e1
  have x3 : Ext G1 G3 := by rw [e2]; exact (Ext.refl _).app _
  have kr : G3[G1.length]? = some (.cells true 0 (rulesC kind deg num den step v)) := by rw [e2]; exact at_new
  clear e2
  have xG3 := x1.trans x3
  have xH3 := xG.trans xG3
  have k1 := xG3.cell g1
  have k2 := xG3.cell g2
  have k3 := xG3.cell g3
  have k4 := x3.cell z4
  have l3 := x3.len
  (repeat (first | refine ya (by (with_reducible constructor) <;> first | rfl | decide) ?_ | apply yb | refine yc rfl ?_))
  refine awp_rangeX mo rfl (fun l h => by cases h) (positions1_c (kind := kind) (deg := deg) (step := step) (v := v) (idr := G1.length) hn hd)
    (fun rest H' => ∃ k ov, rest = streamI (ratioF num den) k ((2001) - k) ∧ k ≤ (2001) ∧ k ≤ 2000 ∧ outN f B 0 N = outN f B k (N - k) ∧ BoxI (H.length + 4) G3 (outTo f k) ov H')
    (fun x H' => (x = .exit 0 ∧ ∃ ov, BoxI (H.length + 4) G3 (outTo f (outN f B 0 N).1) ov H' ∧ (outN f B 0 N).2 = 0) ∨
      (x = .ret ∧ outN f B 0 N = (0, 8) ∧ H'[H.length + 2]? = some (.cells true 0 [.slice none 0 0]) ∧ H'[H.length + 3]? = some (.cells true 0 [.int .i64 8]) ∧ Ext H H')) ?_ ?_ ?_ ?_ ?_ ?_ ?_ ?_ ?_
  · rintro rest H' c' ⟨k, ov, h1, h2, h3, h4, h5⟩
    exact ⟨k, ov, h1, h2, h3, h4, h5.set (by omega) _⟩
  · rintro x H' c' (⟨h1, ov, h2, h3⟩ | ⟨h1, h2, h3, h4, h5⟩)
    · exact .inl ⟨h1, ov, h2.set (by omega) _, h3⟩
    · refine .inr ⟨h1, h2, ?_, ?_, h5.set (by omega) _⟩
      · rw [List.getElem?_set_ne (by omega)]; exact h3
      · rw [List.getElem?_set_ne (by omega)]; exact h4
  · rintro rest H' ⟨k, ov, h1, h2, h3, h4, h5⟩
    exact h5.keeps.get kr (by omega)
  · rintro rest H' N' ⟨k, ov, h1, h2, h3, h4, h5⟩
    exact ⟨k, ov, h1, h2, h3, h4, h5.app _⟩
  · rintro hi H' ⟨k, ov, h1, h2, h3, h4, h5⟩
    have := stream_nil h1; omega
  · intro N'
    exact ⟨0, .slice none 0 0, rfl, Nat.zero_le _, Nat.zero_le _, by rw [Nat.sub_zero], Keeps.of_ext ((Ext.refl _).app _), at_app k4, OwnI.nil _ _⟩
  · rintro a rest H1 ⟨k, ov, h1, h2, h3, h4, h5⟩ hlt
    obtain ⟨n, hn⟩ : ∃ n, (2001) - k = n := ⟨_, rfl⟩
    rw [hn] at h1
    rw [show N - k = n by rw [hN]; exact hn] at h4
    match n, h1 with
    | n + 1, h1 =>
    obtain ⟨rfl, rfl⟩ := List.cons.inj h1
    rw [outN_succ] at h4
    refine ⟨rfl, fun R Rb _ hR => ?_⟩
    simp only [assignParams, List.zip_cons_cons, List.zip_nil_left, List.foldl_cons, List.foldl_nil]
    ((repeat (first | refine ya (by (with_reducible constructor) <;> first | rfl | decide) ?_ | apply yb | refine yc rfl ?_ | ((first | apply yd | apply ye); simp (disch := first | exact yn | omega | (simp only [go_sem]; done) | (simp only [ln, ym]; omega) | (repeat' first | assumption | exact yo _ | refine yp ?_ _)) only [go_sem]; with_reducible rfl))))
    refine ⟨rfl, hR, ?_⟩
    have hRb := get_set_self (d := Rb) hR
    have h6 := h5.set (k := H.length + 4) (by omega) Rb
    have hlb : G3.length < (H1.set G3.length Rb).length := by simpa using hlt
    generalize (H1.set G3.length Rb : AHeap) = Hb at h6 hRb hlb
    have xHb := h6.keeps.ext xH3 (by omega)
    have efk : (ratioF num den) k = f k := by rw [hf]
    rw [efk]
    have hoI := h6.own.ints
    ((repeat (first | refine ya (by (with_reducible constructor) <;> first | rfl | decide) ?_ | apply yb | refine yc rfl ?_ | ((first | apply yd | apply ye); simp (disch := first | exact yn | omega | (simp only [go_sem]; done) | (simp only [ln, ym]; omega) | (repeat' first | assumption | exact yo _ | refine yp ?_ _)) only [go_sem, load_at (h6.keeps.get k1 (by omega)), hB]; with_reducible rfl))))
    refine cond_p rfl (fun hq => ?_) (fun hq => ?_)
    · rw [if_pos hq] at h4
      ((repeat (first | refine ya (by (with_reducible constructor) <;> first | rfl | decide) ?_ | apply yb | refine yc rfl ?_ | ((first | apply yd | apply ye); simp (disch := first | exact yn | omega | (simp only [go_sem]; done) | (simp only [ln, ym]; omega) | (repeat' first | assumption | exact yo _ | refine yp ?_ _)) only [go_sem]; with_reducible rfl))))
      refine rounded_x hRb (.inl ⟨rfl, ov, ?_, ?_⟩)
      · rw [h4]; exact h6
      · rw [h4]
    rw [if_neg hq] at h4
    by_cases hk : k = 2000
    · rw [if_pos hk] at h4
      have b2 := h6.keeps.get k2 (by omega)
      have b3 := h6.keeps.get k3 (by omega)
      have b3' : (Hb.set (H.length + 2) (.cells true 0 [.slice none 0 0]))[H.length + 3]? = some (.cells true 0 [.int .i64 0]) := by rw [List.getElem?_set_ne (by omega)]; exact b3
      ((repeat (first | refine ya (by (with_reducible constructor) <;> first | rfl | decide) ?_ | apply yb | refine yc rfl ?_ | ((first | apply yd | apply ye); simp (disch := first | exact yn | omega | (simp only [go_sem]; done) | (simp only [ln, ym]; omega) | (repeat' first | assumption | exact yo _ | refine yp ?_ _)) only [go_sem, hoI.len, hoI.idx, hoI.load, load_at h6.box, outTo_len, dec_t (show ((k : Nat) : Int) = 2000 by omega)]; with_reducible rfl))))
      refine cond_t rfl ?_
      ((repeat (first | refine ya (by (with_reducible constructor) <;> first | rfl | decide) ?_ | apply yb | refine yc rfl ?_ | ((first | apply yd | apply ye); simp (disch := first | exact yn | omega | (simp only [go_sem]; done) | (simp only [ln, ym]; omega) | (repeat' first | assumption | exact yo _ | refine yp ?_ _)) only [go_sem, store_b1 b2 (y := .slice none 0 0) rfl rfl, store_b1 b3' (y := .int .i64 8) rfl rfl]; with_reducible rfl))))
      refine rounded_r ?_ (.inr ⟨rfl, h4, ?_, get_set_self b3', (xHb.set (by omega) _).set (by omega) _⟩)
      · rw [List.getElem?_set_ne (by omega), List.getElem?_set_ne (by omega)]; exact hRb
      · rw [List.getElem?_set_ne (by omega)]; exact get_set_self b2
    · rw [if_neg hk] at h4
      obtain ⟨s1, s2, s3⟩ := h6.push (by omega) hlb (f k) hRb
      have hpush := h6.own.push (by rw [outTo_len]; omega) (f k)
      ((repeat (first | refine ya (by (with_reducible constructor) <;> first | rfl | decide) ?_ | apply yb | refine yc rfl ?_ | ((first | apply yd | apply ye); simp (disch := first | exact yn | omega | (simp only [go_sem]; done) | (simp only [ln, ym]; omega) | (repeat' first | assumption | exact yo _ | refine yp ?_ _)) only [go_sem, hoI.len, hoI.idx, hoI.load, load_at h6.box, outTo_len, dec_f (show ¬ ((k : Nat) : Int) = 2000 by omega)]; with_reducible rfl))))
      refine cond_f rfl ?_
      ((repeat (first | refine ya (by (with_reducible constructor) <;> first | rfl | decide) ?_ | apply yb | refine yc rfl ?_ | ((first | apply yd | apply ye); simp (disch := first | exact yn | omega | (simp only [go_sem]; done) | (simp only [ln, ym]; omega) | (repeat' first | assumption | exact yo _ | refine yp ?_ _)) only [go_sem, load_at h6.box, hpush, s1]; with_reducible rfl))))
      refine rounded_n s3 ⟨k + 1, pushV Hb (outTo f k).length, ?_, by omega, by omega, ?_, ?_⟩
      · rw [show (2001) - (k + 1) = n by omega]
      · rw [h4, show N - (k + 1) = n by rw [hN]; omega]
      · rw [outTo_succ]; exact s2
  · rintro H' ⟨k, ov, h1, h2, h3, h4, h5⟩
    have h0 := stream_nil h1
    rw [show N - k = 0 by rw [hN]; exact h0] at h4
    have e1 : outN f B 0 N = (k, 0) := h4
    rw [e1]
    have b2 := h5.keeps.get k2 (by omega)
    have b3 := h5.keeps.get k3 (by omega)
    have xH' := h5.keeps.ext xH3 (by omega)
    have hov : ov.cells = ⟨[ov]⟩ := by rcases h5.own.ints.2 with ⟨rfl, _⟩ | ⟨id, off, c, rfl, _⟩ <;> rfl
    have b3' : (H'.set (H.length + 2) (.cells true 0 [ov]))[H.length + 3]? = some (.cells true 0 [.int .i64 0]) := by rw [List.getElem?_set_ne (by omega)]; exact b3
    ((repeat (first | refine ya (by (with_reducible constructor) <;> first | rfl | decide) ?_ | apply yb | refine yc rfl ?_ | ((first | apply yd | apply ye); simp (disch := first | exact yn | omega | (simp only [go_sem]; done) | (simp only [ln, ym]; omega) | (repeat' first | assumption | exact yo _ | refine yp ?_ _)) only [go_sem, load_at h5.box, store_b1 b2 h5.own.ints.atom hov, store_b1 b3' (y := .int .i64 0) rfl rfl]; with_reducible rfl))))
    refine fin_2l (u := ov) (w := .int .i64 0) (load1 (by rw [List.getElem?_set_ne (by omega)]; exact get_set_self b2)) (load1 (get_set_self b3')) ⟨ov, rfl, (xH'.set (by omega) _).set (by omega) _, ?_⟩
    exact ((h5.own.set_ne (h5.own.aside (by simp; omega)) _).set_ne (h5.own.aside (by simp; omega)) _).weaken (by simp; omega)
  · rintro x H' hx (⟨rfl, ov, h5, h6⟩ | ⟨rfl, h2, h3, h4, h5⟩)
    · have b2 := h5.keeps.get k2 (by omega)
      have b3 := h5.keeps.get k3 (by omega)
      have xH' := h5.keeps.ext xH3 (by omega)
      have hov : ov.cells = ⟨[ov]⟩ := by rcases h5.own.ints.2 with ⟨rfl, _⟩ | ⟨id, off, c, rfl, _⟩ <;> rfl
      have b3' : (H'.set (H.length + 2) (.cells true 0 [ov]))[H.length + 3]? = some (.cells true 0 [.int .i64 0]) := by rw [List.getElem?_set_ne (by omega)]; exact b3
      rw [h6]
      ((repeat (first | refine ya (by (with_reducible constructor) <;> first | rfl | decide) ?_ | apply yb | refine yc rfl ?_ | ((first | apply yd | apply ye); simp (disch := first | exact yn | omega | (simp only [go_sem]; done) | (simp only [ln, ym]; omega) | (repeat' first | assumption | exact yo _ | refine yp ?_ _)) only [go_sem, load_at h5.box, store_b1 b2 h5.own.ints.atom hov, store_b1 b3' (y := .int .i64 0) rfl rfl]; with_reducible rfl))))
      refine fin_2l (u := ov) (w := .int .i64 0) (load1 (by rw [List.getElem?_set_ne (by omega)]; exact get_set_self b2)) (load1 (get_set_self b3')) ⟨ov, rfl, (xH'.set (by omega) _).set (by omega) _, ?_⟩
      exact ((h5.own.set_ne (h5.own.aside (by simp; omega)) _).set_ne (h5.own.aside (by simp; omega)) _).weaken (by simp; omega)
    · rw [h2]
      ((repeat (first | refine ya (by (with_reducible constructor) <;> first | rfl | decide) ?_ | apply yb | refine yc rfl ?_ | ((first | apply yd | apply ye); simp (disch := first | exact yn | omega | (simp only [go_sem]; done) | (simp only [ln, ym]; omega) | (repeat' first | assumption | exact yo _ | refine yp ?_ _)) only [go_sem]; with_reducible rfl))))
      refine fin_2l (u := .slice none 0 0) (w := .int .i64 8) (load1 h3) (load1 h4) ⟨_, rfl, h5, OwnI.nil _ _⟩

set_option maxHeartbeats 8000000 in
theorem outputsC_c {count : Int} (hl : Pairs H l v) (h0 : ¬ kind = 0) (hok : MapOk l) (hs : 1 ≤ step ∧ step ≤ 1000000000000) (hcnt : 0 ≤ count ∧ count ≤ 400) : ACall Go.Proofs.Tryd.prog 90 [rulesV kind deg num den step v, .int .i64 count] H
    (IntsRes H (outsL (curveF l step) (curveN l step) count).1 (outsL (curveF l step) (curveN l step) count).2) := by
  refine ACall.intsE ?_
  (refine a90 ?_; simp only [n90, List.replicate, yq, yr, yt, yu]; first | refine q1 ?_ | refine q2 ?_ | refine q6 ?_ | refine q7 ?_ | refine qh rfl ?_ | skip)
  have hbi : ∀ J : AHeap, boxR (.int .i64 count) J = some (.pointer (some ⟨J.length, 0, none⟩), J ++ [.cells true 0 [.int .i64 count]]) := fun J => rfl
  obtain ⟨G, hG⟩ : ∃ G, G = H ++ [AObj.cells true 0 (rulesC kind deg num den step v)] ++ [AObj.cells true 0 [.int .i64 count]] ++ [AObj.cells true 0 [.slice none 0 0]] ++ [AObj.cells true 0 [.int .i64 0]] := ⟨_, rfl⟩
  have g0 : G[H.length]? = some (.cells true 0 (rulesC kind deg num den step v)) := by rw [hG]; simp
  have g1 : G[H.length + 1]? = some (.cells true 0 [.int .i64 count]) := by rw [hG]; simp
  have g2 : G[H.length + 2]? = some (.cells true 0 [.slice none 0 0]) := by rw [hG]; simp
  have g3 : G[H.length + 3]? = some (.cells true 0 [.int .i64 0]) := by rw [hG]; simp
  have xG : Ext H G := by rw [hG]; exact ((((Ext.refl H).app _).app _).app _).app _
  have lG : G.length = H.length + 4 := by rw [hG]; simp
  (repeat (first | refine ya (by (with_reducible constructor) <;> first | rfl | decide) ?_ | (apply yd; simp (disch := first | exact yn | omega | (simp only [go_sem]; done) | (simp only [ln, ym]; omega) | (repeat' first | assumption | exact yo _ | refine yp ?_ _)) only [go_sem, box_rules hl.atom, hbi]; with_reducible rfl)))
  (simp only [List.length_append, List.length_cons, List.length_nil, Nat.zero_add, Nat.add_assoc, Nat.reduceAdd])
  rw [← hG]
  clear hG
  obtain ⟨f, hf⟩ : ∃ f, f = curveF l step := ⟨_, rfl⟩
  obtain ⟨N, hN⟩ : ∃ N, N = curveN l step := ⟨_, rfl⟩
  obtain ⟨B, hB⟩ : ∃ B, 64 * (count - 1) = B := ⟨_, rfl⟩
  have ho : outsL (curveF l step) (curveN l step) count = (outTo f (outN f B 0 N).1, (outN f B 0 N).2) := by unfold outsL; rw [hf, hN, hB]
  rw [ho]
  have z0 := at_app (N := [AObj.cells true 0 [.slice none 0 0]]) g0
  have z4 : (G ++ [AObj.cells true 0 [.slice none 0 0]])[H.length + 4]? = some (.cells true 0 [.slice none 0 0]) := by rw [← lG]; exact at_new
  have x1 := (Ext.refl G).app [AObj.cells true 0 [.slice none 0 0]]
  have l1 : (G ++ [AObj.cells true 0 [.slice none 0 0]]).length = G.length + 1 := by simp
  have l6 : loadNR 6 (.pointer (some ⟨H.length, 0, none⟩)) (G ++ [AObj.cells true 0 [.slice none 0 0]]) = some (rulesV kind deg num den step v, G ++ [AObj.cells true 0 [.slice none 0 0]]) := loadN_at z0 (by simp [rulesC])
  ((repeat (first | refine ya (by (with_reducible constructor) <;> first | rfl | decide) ?_ | apply yb | refine yc rfl ?_ | ((first | apply yd | apply ye); simp (disch := first | exact yn | omega | (simp only [go_sem]; done) | (simp only [ln, ym]; omega) | (repeat' first | assumption | exact yo _ | refine yp ?_ _)) only [go_sem, l6]; with_reducible rfl))))
  generalize (G ++ [AObj.cells true 0 [.slice none 0 0]] : AHeap) = G1 at z0 z4 x1 l1 l6
  refine aops_call ((positionsC_c (hl.ext (xG.trans x1)) h0).mono fun v1 G3 ⟨e1, e2⟩ => ?_)
  subst e1
  have x3 : Ext G1 G3 := by rw [e2]; exact ((Ext.refl _).app _).app _
  have kr : G3[G1.length]? = some (.cells true 0 (rulesC kind deg num den step v)) := by rw [e2]; simp
  have kn : G3[G1.length + 1]? = some (.cells true 0 [v]) := by rw [e2]; simp
  clear e2
  have xG3 := x1.trans x3
  have xH3 := xG.trans xG3
  have k1 := xG3.cell g1
  have k2 := xG3.cell g2
  have k3 := xG3.cell g3
  have k4 := x3.cell z4
  have l3 := x3.len
  (repeat (first | refine ya (by (with_reducible constructor) <;> first | rfl | decide) ?_ | apply yb | refine yc rfl ?_))
  refine awp_rangeX mo rfl (fun l h => by cases h) (positions2_c (kind := kind) (deg := deg) (num := num) (den := den) (v := v) (idn := G1.length + 1) (idr := G1.length) hok hs)
    (fun rest H' => ∃ k ov, rest = streamI (curveF l step) k ((curveN l step) - k) ∧ k ≤ (curveN l step) ∧ k ≤ 2000 ∧ outN f B 0 N = outN f B k (N - k) ∧ BoxI (H.length + 4) G3 (outTo f k) ov H')
    (fun x H' => (x = .exit 0 ∧ ∃ ov, BoxI (H.length + 4) G3 (outTo f (outN f B 0 N).1) ov H' ∧ (outN f B 0 N).2 = 0) ∨
      (x = .ret ∧ outN f B 0 N = (0, 8) ∧ H'[H.length + 2]? = some (.cells true 0 [.slice none 0 0]) ∧ H'[H.length + 3]? = some (.cells true 0 [.int .i64 8]) ∧ Ext H H')) ?_ ?_ ?_ ?_ ?_ ?_ ?_ ?_ ?_
  · rintro rest H' c' ⟨k, ov, h1, h2, h3, h4, h5⟩
    exact ⟨k, ov, h1, h2, h3, h4, h5.set (by omega) _⟩
  · rintro x H' c' (⟨h1, ov, h2, h3⟩ | ⟨h1, h2, h3, h4, h5⟩)
    · exact .inl ⟨h1, ov, h2.set (by omega) _, h3⟩
    · refine .inr ⟨h1, h2, ?_, ?_, h5.set (by omega) _⟩
      · rw [List.getElem?_set_ne (by omega)]; exact h3
      · rw [List.getElem?_set_ne (by omega)]; exact h4
  · rintro rest H' ⟨k, ov, h1, h2, h3, h4, h5⟩
    exact ⟨h5.keeps.get kn (by omega), h5.keeps.get kr (by omega), hl.ext (h5.keeps.ext xH3 (by omega))⟩
  · rintro rest H' N' ⟨k, ov, h1, h2, h3, h4, h5⟩
    exact ⟨k, ov, h1, h2, h3, h4, h5.app _⟩
  · rintro hi H' ⟨k, ov, h1, h2, h3, h4, h5⟩
    cases hi
  · intro N'
    exact ⟨0, .slice none 0 0, rfl, Nat.zero_le _, Nat.zero_le _, by rw [Nat.sub_zero], Keeps.of_ext ((Ext.refl _).app _), at_app k4, OwnI.nil _ _⟩
  · rintro a rest H1 ⟨k, ov, h1, h2, h3, h4, h5⟩ hlt
    obtain ⟨n, hn⟩ : ∃ n, (curveN l step) - k = n := ⟨_, rfl⟩
    rw [hn] at h1
    rw [show N - k = n by rw [hN]; exact hn] at h4
    match n, h1 with
    | n + 1, h1 =>
    obtain ⟨rfl, rfl⟩ := List.cons.inj h1
    rw [outN_succ] at h4
    refine ⟨rfl, fun R Rb _ hR => ?_⟩
    simp only [assignParams, List.zip_cons_cons, List.zip_nil_left, List.foldl_cons, List.foldl_nil]
    ((repeat (first | refine ya (by (with_reducible constructor) <;> first | rfl | decide) ?_ | apply yb | refine yc rfl ?_ | ((first | apply yd | apply ye); simp (disch := first | exact yn | omega | (simp only [go_sem]; done) | (simp only [ln, ym]; omega) | (repeat' first | assumption | exact yo _ | refine yp ?_ _)) only [go_sem]; with_reducible rfl))))
    refine ⟨rfl, hR, ?_⟩
    have hRb := get_set_self (d := Rb) hR
    have h6 := h5.set (k := H.length + 4) (by omega) Rb
    have hlb : G3.length < (H1.set G3.length Rb).length := by simpa using hlt
    generalize (H1.set G3.length Rb : AHeap) = Hb at h6 hRb hlb
    have xHb := h6.keeps.ext xH3 (by omega)
    have efk : (curveF l step) k = f k := by rw [hf]
    rw [efk]
    have hoI := h6.own.ints
    ((repeat (first | refine ya (by (with_reducible constructor) <;> first | rfl | decide) ?_ | apply yb | refine yc rfl ?_ | ((first | apply yd | apply ye); simp (disch := first | exact yn | omega | (simp only [go_sem]; done) | (simp only [ln, ym]; omega) | (repeat' first | assumption | exact yo _ | refine yp ?_ _)) only [go_sem, load_at (h6.keeps.get k1 (by omega)), hB]; with_reducible rfl))))
    refine cond_p rfl (fun hq => ?_) (fun hq => ?_)
    · rw [if_pos hq] at h4
      ((repeat (first | refine ya (by (with_reducible constructor) <;> first | rfl | decide) ?_ | apply yb | refine yc rfl ?_ | ((first | apply yd | apply ye); simp (disch := first | exact yn | omega | (simp only [go_sem]; done) | (simp only [ln, ym]; omega) | (repeat' first | assumption | exact yo _ | refine yp ?_ _)) only [go_sem]; with_reducible rfl))))
      refine rounded_x hRb (.inl ⟨rfl, ov, ?_, ?_⟩)
      · rw [h4]; exact h6
      · rw [h4]
    rw [if_neg hq] at h4
    by_cases hk : k = 2000
    · rw [if_pos hk] at h4
      have b2 := h6.keeps.get k2 (by omega)
      have b3 := h6.keeps.get k3 (by omega)
      have b3' : (Hb.set (H.length + 2) (.cells true 0 [.slice none 0 0]))[H.length + 3]? = some (.cells true 0 [.int .i64 0]) := by rw [List.getElem?_set_ne (by omega)]; exact b3
      ((repeat (first | refine ya (by (with_reducible constructor) <;> first | rfl | decide) ?_ | apply yb | refine yc rfl ?_ | ((first | apply yd | apply ye); simp (disch := first | exact yn | omega | (simp only [go_sem]; done) | (simp only [ln, ym]; omega) | (repeat' first | assumption | exact yo _ | refine yp ?_ _)) only [go_sem, hoI.len, hoI.idx, hoI.load, load_at h6.box, outTo_len, dec_t (show ((k : Nat) : Int) = 2000 by omega)]; with_reducible rfl))))
      refine cond_t rfl ?_
      ((repeat (first | refine ya (by (with_reducible constructor) <;> first | rfl | decide) ?_ | apply yb | refine yc rfl ?_ | ((first | apply yd | apply ye); simp (disch := first | exact yn | omega | (simp only [go_sem]; done) | (simp only [ln, ym]; omega) | (repeat' first | assumption | exact yo _ | refine yp ?_ _)) only [go_sem, store_b1 b2 (y := .slice none 0 0) rfl rfl, store_b1 b3' (y := .int .i64 8) rfl rfl]; with_reducible rfl))))
      refine rounded_r ?_ (.inr ⟨rfl, h4, ?_, get_set_self b3', (xHb.set (by omega) _).set (by omega) _⟩)
      · rw [List.getElem?_set_ne (by omega), List.getElem?_set_ne (by omega)]; exact hRb
      · rw [List.getElem?_set_ne (by omega)]; exact get_set_self b2
    · rw [if_neg hk] at h4
      obtain ⟨s1, s2, s3⟩ := h6.push (by omega) hlb (f k) hRb
      have hpush := h6.own.push (by rw [outTo_len]; omega) (f k)
      ((repeat (first | refine ya (by (with_reducible constructor) <;> first | rfl | decide) ?_ | apply yb | refine yc rfl ?_ | ((first | apply yd | apply ye); simp (disch := first | exact yn | omega | (simp only [go_sem]; done) | (simp only [ln, ym]; omega) | (repeat' first | assumption | exact yo _ | refine yp ?_ _)) only [go_sem, hoI.len, hoI.idx, hoI.load, load_at h6.box, outTo_len, dec_f (show ¬ ((k : Nat) : Int) = 2000 by omega)]; with_reducible rfl))))
      refine cond_f rfl ?_
      ((repeat (first | refine ya (by (with_reducible constructor) <;> first | rfl | decide) ?_ | apply yb | refine yc rfl ?_ | ((first | apply yd | apply ye); simp (disch := first | exact yn | omega | (simp only [go_sem]; done) | (simp only [ln, ym]; omega) | (repeat' first | assumption | exact yo _ | refine yp ?_ _)) only [go_sem, load_at h6.box, hpush, s1]; with_reducible rfl))))
      refine rounded_n s3 ⟨k + 1, pushV Hb (outTo f k).length, ?_, by omega, by omega, ?_, ?_⟩
      · rw [show (curveN l step) - (k + 1) = n by omega]
      · rw [h4, show N - (k + 1) = n by rw [hN]; omega]
      · rw [outTo_succ]; exact s2
  · rintro H' ⟨k, ov, h1, h2, h3, h4, h5⟩
    have h0 := stream_nil h1
    rw [show N - k = 0 by rw [hN]; exact h0] at h4
    have e1 : outN f B 0 N = (k, 0) := h4
    rw [e1]
    have b2 := h5.keeps.get k2 (by omega)
    have b3 := h5.keeps.get k3 (by omega)
    have xH' := h5.keeps.ext xH3 (by omega)
    have hov : ov.cells = ⟨[ov]⟩ := by rcases h5.own.ints.2 with ⟨rfl, _⟩ | ⟨id, off, c, rfl, _⟩ <;> rfl
    have b3' : (H'.set (H.length + 2) (.cells true 0 [ov]))[H.length + 3]? = some (.cells true 0 [.int .i64 0]) := by rw [List.getElem?_set_ne (by omega)]; exact b3
    ((repeat (first | refine ya (by (with_reducible constructor) <;> first | rfl | decide) ?_ | apply yb | refine yc rfl ?_ | ((first | apply yd | apply ye); simp (disch := first | exact yn | omega | (simp only [go_sem]; done) | (simp only [ln, ym]; omega) | (repeat' first | assumption | exact yo _ | refine yp ?_ _)) only [go_sem, load_at h5.box, store_b1 b2 h5.own.ints.atom hov, store_b1 b3' (y := .int .i64 0) rfl rfl]; with_reducible rfl))))
    refine fin_2l (u := ov) (w := .int .i64 0) (load1 (by rw [List.getElem?_set_ne (by omega)]; exact get_set_self b2)) (load1 (get_set_self b3')) ⟨ov, rfl, (xH'.set (by omega) _).set (by omega) _, ?_⟩
    exact ((h5.own.set_ne (h5.own.aside (by simp; omega)) _).set_ne (h5.own.aside (by simp; omega)) _).weaken (by simp; omega)
  · rintro x H' hx (⟨rfl, ov, h5, h6⟩ | ⟨rfl, h2, h3, h4, h5⟩)
    · have b2 := h5.keeps.get k2 (by omega)
      have b3 := h5.keeps.get k3 (by omega)
      have xH' := h5.keeps.ext xH3 (by omega)
      have hov : ov.cells = ⟨[ov]⟩ := by rcases h5.own.ints.2 with ⟨rfl, _⟩ | ⟨id, off, c, rfl, _⟩ <;> rfl
      have b3' : (H'.set (H.length + 2) (.cells true 0 [ov]))[H.length + 3]? = some (.cells true 0 [.int .i64 0]) := by rw [List.getElem?_set_ne (by omega)]; exact b3
      rw [h6]
      ((repeat (first | refine ya (by (with_reducible constructor) <;> first | rfl | decide) ?_ | apply yb | refine yc rfl ?_ | ((first | apply yd | apply ye); simp (disch := first | exact yn | omega | (simp only [go_sem]; done) | (simp only [ln, ym]; omega) | (repeat' first | assumption | exact yo _ | refine yp ?_ _)) only [go_sem, load_at h5.box, store_b1 b2 h5.own.ints.atom hov, store_b1 b3' (y := .int .i64 0) rfl rfl]; with_reducible rfl))))
      refine fin_2l (u := ov) (w := .int .i64 0) (load1 (by rw [List.getElem?_set_ne (by omega)]; exact get_set_self b2)) (load1 (get_set_self b3')) ⟨ov, rfl, (xH'.set (by omega) _).set (by omega) _, ?_⟩
      exact ((h5.own.set_ne (h5.own.aside (by simp; omega)) _).set_ne (h5.own.aside (by simp; omega)) _).weaken (by simp; omega)
    · rw [h2]
      ((repeat (first | refine ya (by (with_reducible constructor) <;> first | rfl | decide) ?_ | apply yb | refine yc rfl ?_ | ((first | apply yd | apply ye); simp (disch := first | exact yn | omega | (simp only [go_sem]; done) | (simp only [ln, ym]; omega) | (repeat' first | assumption | exact yo _ | refine yp ?_ _)) only [go_sem]; with_reducible rfl))))
      refine fin_2l (u := .slice none 0 0) (w := .int .i64 8) (load1 h3) (load1 h4) ⟨_, rfl, h5, OwnI.nil _ _⟩
end
end Go.Lq

namespace Go.Lq
open Go
open Go.Proofs

def outF (kind num den step : Int) (l : List (Int × Int)) : Nat → Int := if kind = 0 then ratioF num den else curveF l step
def outC (kind step : Int) (l : List (Int × Int)) : Nat := if kind = 0 then 2001 else curveN l step
def outsR (kind num den step : Int) (l : List (Int × Int)) (count : Int) : List Int × Int := outsL (outF kind num den step l) (outC kind step l) count
theorem rules_ratio {kind deg num den step : Int} {l : List (Int × Int)} (h : rulesErrL kind deg num den step l = 0) (h0 : kind = 0) : (1 ≤ num ∧ num ≤ 1000) ∧ (1 ≤ den ∧ den ≤ 1000) ∧ (deg = 1 ∨ deg = 3) := by
  unfold rulesErrL at h
  by_cases hk : 0 ≤ kind ∧ kind ≤ 1
  · rw [if_pos hk] at h
    by_cases hd : degErrL deg = 0
    · rw [if_pos hd, if_pos h0] at h
      unfold ratioErrL at h
      by_cases hn : (1 ≤ num ∧ num ≤ 1000) ∧ (1 ≤ den ∧ den ≤ 1000)
      · exact ⟨hn.1, hn.2, degErr_ok hd⟩
      · rw [if_neg hn] at h; exact absurd h (by simp [firstErr])
    · rw [if_neg hd] at h; exact absurd h hd
  · rw [if_neg hk] at h; exact absurd h (by decide)
theorem rules_curve {kind deg num den step : Int} {l : List (Int × Int)} (h : rulesErrL kind deg num den step l = 0) (h0 : ¬ kind = 0) : MapOk l ∧ (1 ≤ step ∧ step ≤ 1000000000000) ∧ (deg = 1 ∨ deg = 3) := by
  unfold rulesErrL at h
  by_cases hk : 0 ≤ kind ∧ kind ≤ 1
  · rw [if_pos hk] at h
    by_cases hd : degErrL deg = 0
    · rw [if_pos hd, if_neg h0] at h
      unfold curveErrL at h
      by_cases hm : mapErrL l = 0
      · rw [hm, firstErr_z] at h
        by_cases hs : 1 ≤ step ∧ step ≤ 1000000000000
        · exact ⟨mapErr_ok hm, hs, degErr_ok hd⟩
        · rw [if_neg hs] at h; exact absurd h (by simp [firstErr])
      · rw [firstErr_e hm] at h; exact absurd h hm
    · rw [if_neg hd] at h; exact absurd h hd
  · rw [if_neg hk] at h; exact absurd h (by decide)

section
variable {H : AHeap} {kind deg num den step : Int} {l : List (Int × Int)} {v : Value}
theorem outputs_c {count : Int} (hl : Pairs H l v) (he : rulesErrL kind deg num den step l = 0) (hcnt : 0 ≤ count ∧ count ≤ 400) : ACall Go.Proofs.Tryd.prog 90 [rulesV kind deg num den step v, .int .i64 count] H
    (IntsRes H (outsR kind num den step l count).1 (outsR kind num den step l count).2) := by
  by_cases h0 : kind = 0
  · obtain ⟨h1, h2, _⟩ := rules_ratio he h0
    have e : outsR kind num den step l count = outsL (ratioF num den) 2001 count := by unfold outsR outF outC; rw [if_pos h0, if_pos h0]
    rw [e]
    exact outputsR_c hl h0 h1 h2 hcnt
  · obtain ⟨h1, h2, _⟩ := rules_curve he h0
    have e : outsR kind num den step l count = outsL (curveF l step) (curveN l step) count := by unfold outsR outF outC; rw [if_neg h0, if_neg h0]
    rw [e]
    exact outputsC_c hl h0 h1 h2 hcnt
end
end Go.Lq


namespace Go.Lq
open Go
open Go.Proofs

def yL (deg : Int) (x : List Int) (q : Int) : Int := min (max ((2 * valueL deg x q + denL deg) / (2 * denL deg)) (-32767)) 32767
def midL (qs : List Int) (y : Int → Int) (i : Nat) : List Int := (qs.take i).map y ++ qs.drop i
theorem midL_len {qs : List Int} {y : Int → Int} {i : Nat} : (midL qs y i).length = qs.length := by
  unfold midL; simp; omega
theorem midL_zero {qs : List Int} {y : Int → Int} : midL qs y 0 = qs := by simp [midL]
theorem midL_all {qs : List Int} {y : Int → Int} : midL qs y qs.length = qs.map y := by simp [midL]
theorem midL_getD {qs : List Int} {y : Int → Int} {i : Nat} (h : i < qs.length) : (midL qs y i).getD i 0 = qs.getD i 0 := by
  unfold midL
  rw [List.getD_eq_getElem?_getD, List.getElem?_append_right (by simp; omega), List.getD_eq_getElem?_getD, List.getElem?_drop]
  have : i + (i - ((qs.take i).map y).length) = i := by simp; omega
  rw [this]
theorem midL_set {qs : List Int} {y : Int → Int} {i : Nat} (h : i < qs.length) : (midL qs y i).set i (y (qs.getD i 0)) = midL qs y (i + 1) := by
  have hl : ((qs.take i).map y).length = i := by simp; omega
  unfold midL
  rw [List.set_append_right _ _ (by omega), hl, Nat.sub_self, List.drop_eq_getElem_cons h, List.set_cons_zero]
  rw [List.take_add_one, List.getElem?_eq_getElem h, List.map_append, List.getD_eq_getElem?_getD, List.getElem?_eq_getElem h]
  simp
theorem outN_bound {f : Nat → Int} {B : Int} : ∀ {n k j : Nat}, k ≤ j → j < (outN f B k n).1 → f j ≤ B ∧ j < k + n
  | 0, k, j, h1, h2 => by have : j < k := h2; omega
  | n + 1, k, j, h1, h2 => by
    rw [outN_succ] at h2
    by_cases hq : B < f k
    · rw [if_pos hq] at h2
      have : j < k := h2
      omega
    · rw [if_neg hq] at h2
      by_cases hk : k = 2000
      · rw [if_pos hk] at h2
        have : j < 0 := h2
        omega
      · rw [if_neg hk] at h2
        by_cases e : j = k
        · subst e; exact ⟨by omega, by omega⟩
        · have := outN_bound (n := n) (k := k + 1) (j := j) (by omega) h2
          exact ⟨this.1, by omega⟩
theorem posLo_nn {p : (Int × Int) × (Int × Int)} {t : Int} (h1 : 0 ≤ p.1.1) (h2 : p.1.1 ≤ p.2.1) (h3 : p.1.2 < p.2.2) (h4 : p.1.2 ≤ t) : 0 ≤ posLo p t := by
  unfold posLo posN
  have := Int.ediv_nonneg (Int.mul_nonneg (show 0 ≤ t - p.1.2 by omega) (show 0 ≤ 64 * (p.2.1 - p.1.1) by omega)) (show 0 ≤ p.2.2 - p.1.2 by omega)
  omega
theorem atTime_in {l : List (Int × Int)} {t : Int} : ∀ {k i : Nat}, i + k + 1 < l.length → (l.getD i (0, 0)).2 ≤ t → atTime l t i k + 1 < l.length ∧ (l.getD (atTime l t i k) (0, 0)).2 ≤ t
  | 0, i, h, h2 => ⟨by show i + 1 < _; omega, h2⟩
  | k + 1, i, h, h2 => by
    rw [atTime_succ]
    split
    · exact atTime_in (by omega) (by omega)
    · exact ⟨by omega, h2⟩
theorem outs_in {kind deg num den step count : Int} {l : List (Int × Int)} (he : rulesErrL kind deg num den step l = 0) (i : Nat) (hi : i < (outsR kind num den step l count).1.length) :
    0 ≤ (outsR kind num den step l count).1.getD i 0 ∧ (outsR kind num den step l count).1.getD i 0 ≤ 64 * (count - 1) := by
  unfold outsR outsL at hi ⊢
  rw [outTo_len] at hi
  have hb := outN_bound (Nat.zero_le i) hi
  have e : (outTo (outF kind num den step l) (outN (outF kind num den step l) (64 * (count - 1)) 0 (outC kind step l)).1).getD i 0 = outF kind num den step l i := by
    unfold outTo
    rw [List.getD_eq_getElem?_getD, List.getElem?_map, List.getElem?_range hi]; rfl
  rw [e]
  refine ⟨?_, hb.1⟩
  unfold outF
  by_cases h0 : kind = 0
  · obtain ⟨h1, h2, _⟩ := rules_ratio he h0
    rw [if_pos h0]
    exact Int.ediv_nonneg (Int.mul_nonneg (by omega) (by omega)) (by omega)
  · obtain ⟨hok, hs, _⟩ := rules_curve he h0
    rw [if_neg h0]
    have hN : i < curveN l step := by have := hb.2; unfold outC at this; rw [if_neg h0] at this; omega
    rw [curveF_eq hok (by omega) hN]
    have hlo := hok.lo
    have ht := Int.mul_nonneg (show (0 : Int) ≤ i by omega) (show 0 ≤ step by omega)
    obtain ⟨a1, a2⟩ := atTime_in (l := l) (t := t0L l + i * step) (k := l.length - 2) (i := 0) (by omega) (show t0L l ≤ _ by omega)
    have p1 := hok.pos _ (show atTime l (t0L l + i * step) 0 (l.length - 2) < l.length by omega)
    have p2 := hok.posUp _ a1
    have p3 := hok.timeUp _ a1
    exact posLo_nn p1.1 (Int.le_of_lt p2) p3 a2
end Go.Lq

namespace Go.Lq
open Go
open Go.Proofs

theorem outN_two {f : Nat → Int} {B : Int} : ∀ {n k : Nat}, k ≤ 2000 → ((outN f B k n).2 = 0 ∧ (outN f B k n).1 ≤ k + n) ∨ outN f B k n = (0, 8)
  | 0, k, _ => .inl ⟨rfl, Nat.le_refl _⟩
  | n + 1, k, hk => by
    rw [outN_succ]
    split
    · exact .inl ⟨rfl, by show k ≤ _; omega⟩
    · split
      · exact .inr rfl
      · rcases outN_two (f := f) (B := B) (n := n) (k := k + 1) (by omega) with ⟨h1, h2⟩ | h
        · exact .inl ⟨h1, by omega⟩
        · exact .inr h
theorem outN_le {f : Nat → Int} {B : Int} : ∀ {n k : Nat}, k ≤ 2000 → (outN f B k n).1 ≤ 2000
  | 0, k, h => h
  | n + 1, k, hk => by
    rw [outN_succ]
    split
    · exact hk
    · split
      · exact Nat.zero_le _
      · exact outN_le (by omega)
theorem outs_two (kind num den step count : Int) (l : List (Int × Int)) : (outsR kind num den step l count).1.length ≤ 2000 ∧ ((outsR kind num den step l count).2 = 0 ∨ outsR kind num den step l count = ([], 8)) := by
  unfold outsR outsL
  refine ⟨by rw [outTo_len]; exact outN_le (Nat.zero_le _), ?_⟩
  rcases outN_two (f := outF kind num den step l) (B := 64 * (count - 1)) (n := outC kind step l) (k := 0) (by omega) with ⟨h1, _⟩ | h
  · exact .inl h1
  · exact .inr (by rw [h]; rfl)
end Go.Lq

namespace Go.Lq
open Go
open Go.Proofs

def resErrL (kind deg num den step : Int) (l : List (Int × Int)) (x : List Int) : Int := firstErr [rulesErrL kind deg num den step l, signalErrL x]
def resL (kind deg num den step : Int) (l : List (Int × Int)) (x : List Int) : List Int × Int :=
  if resErrL kind deg num den step l x = 0 then
    (if (outsR kind num den step l x.length).2 = 0 then ((outsR kind num den step l x.length).1.map (yL deg x), 0) else ([], (outsR kind num den step l x.length).2))
  else ([], resErrL kind deg num den step l x)
theorem resErr_ok {kind deg num den step : Int} {l : List (Int × Int)} {x : List Int} (h : resErrL kind deg num den step l x = 0) : rulesErrL kind deg num den step l = 0 ∧ signalErrL x = 0 := by
  unfold resErrL at h
  by_cases h1 : rulesErrL kind deg num den step l = 0
  · refine ⟨h1, ?_⟩
    rw [h1, firstErr_z] at h
    refine Decidable.byContradiction fun hn => ?_
    rw [firstErr_e hn] at h; exact hn h
  · rw [firstErr_e h1] at h; exact absurd h h1
theorem rules_deg {kind deg num den step : Int} {l : List (Int × Int)} (h : rulesErrL kind deg num den step l = 0) : deg = 1 ∨ deg = 3 := by
  by_cases h0 : kind = 0
  · exact (rules_ratio h h0).2.2
  · exact (rules_curve h h0).2.2
def kernH (G : AHeap) (m : List Int) (deg : Int) : AHeap := G ++ [.cells true 1 (m.map (.int .i64))] ++ [.cells true 0 (kern deg)]
section
variable {G : AHeap} {m : List Int} {deg : Int}
theorem kernH_s : (kernH G m deg)[G.length]? = some (.cells true 1 (m.map (.int .i64))) := by simp [kernH]
theorem kernH_k : (kernH G m deg)[G.length + 1]? = some (.cells true 0 (kern deg)) := by simp [kernH]
theorem kernH_x : Ext G (kernH G m deg) := ((Ext.refl G).app _).app _
theorem kernH_set {i : Nat} {x : Int} : (kernH G m deg).set G.length (.cells true 1 ((m.set i x).map (.int .i64))) = kernH G (m.set i x) deg := set_in
theorem kernH_ints {n : Nat} (h : m.length = n) : Ints (kernH G m deg) m (.slice (some ⟨G.length, 0, none⟩) n n) := by
  subst h
  exact ints_first (b := true) (r := []) (by rw [List.append_nil]; exact kernH_s)
theorem den_bound (deg : Int) : 0 < denL deg ∧ denL deg ≤ 1572864 := by unfold denL; split <;> omega
end

section
variable {H : AHeap} {kind deg num den step : Int} {l : List (Int × Int)} {v w : Value} {x : List Int}
set_option maxHeartbeats 8000000 in
theorem resampled_c (hx : Ext H0 H) (hl : Pairs H l v) (hb : l.length ≤ 1000000000) (hX : Ints H x w) (hxl : x.length ≤ 1000000000) : ACall Go.Proofs.Tryd.prog 23 [rulesV kind deg num den step v, w] H
    (IntsRes H (resL kind deg num den step l x).1 (resL kind deg num den step l x).2) := by
  refine ACall.intsE ?_
  (refine a23 ?_; simp only [n23, List.replicate, yq, yr, yt, yu]; first | refine q1 ?_ | refine q2 ?_ | refine q6 ?_ | refine q7 ?_ | refine qh rfl ?_ | skip)
  have g0 : (H ++ [AObj.cells true 0 (rulesC kind deg num den step v)])[H.length]? = some (.cells true 0 (rulesC kind deg num den step v)) := at_new
  have xG : Ext H (H ++ [AObj.cells true 0 (rulesC kind deg num den step v)]) := (Ext.refl H).app _
  have l6 : loadNR 6 (.pointer (some ⟨H.length, 0, none⟩)) (H ++ [AObj.cells true 0 (rulesC kind deg num den step v)]) = some (rulesV kind deg num den step v, H ++ [AObj.cells true 0 (rulesC kind deg num den step v)]) := loadN_at g0 (by simp [rulesC])
  ((repeat (first | refine ya (by (with_reducible constructor) <;> first | rfl | decide) ?_ | apply yb | refine yc rfl ?_ | ((first | apply yd | apply ye); simp (disch := first | exact yn | omega | (simp only [go_sem]; done) | (simp only [ln, ym]; omega) | (repeat' first | assumption | exact yo _ | refine yp ?_ _)) only [go_sem, box_rules hl.atom, l6]; with_reducible rfl))))
  generalize (H ++ [AObj.cells true 0 (rulesC kind deg num den step v)] : AHeap) = G at g0 xG l6
  refine aops_call_to (checkRules_c (hl.ext xG) hb) ?_
  ((repeat (first | refine ya (by (with_reducible constructor) <;> first | rfl | decide) ?_ | apply yb | refine yc rfl ?_ | ((first | apply yd | apply ye); simp (disch := first | exact yn | omega | (simp only [go_sem]; done) | (simp only [ln, ym]; omega) | (repeat' first | assumption | exact yo _ | refine yp ?_ _)) only [go_sem]; with_reducible rfl))))
  refine aops_call_to (signalErr_c (hX.ext xG) hxl) ?_
  ((repeat (first | refine ya (by (with_reducible constructor) <;> first | rfl | decide) ?_ | apply yb | refine yc rfl ?_ | ((first | apply yd | apply ye); simp (disch := first | exact yn | omega | (simp only [go_sem]; done) | (simp only [ln, ym]; omega) | (repeat' first | assumption | exact yo _ | refine yp ?_ _)) only [go_sem]; with_reducible rfl))))
  refine aops_call_to (first_c (l := [_, _]) (Ints.last (l := [_, _]) 2) (by simp)) ?_
  have he : firstErr [rulesErrL kind deg num den step l, signalErrL x] = resErrL kind deg num den step l x := rfl
  rw [he]
  have x2 : Ext G (G ++ [AObj.cells true 1 [.int .i64 (rulesErrL kind deg num den step l), .int .i64 (signalErrL x)]]) := (Ext.refl G).app _
  generalize (G ++ [AObj.cells true 1 [.int .i64 (rulesErrL kind deg num den step l), .int .i64 (signalErrL x)]] : AHeap) = G2 at x2
  have xH2 := xG.trans x2
  have k0 := x2.cell g0
  have k6 : loadNR 6 (.pointer (some ⟨H.length, 0, none⟩)) G2 = some (rulesV kind deg num den step v, G2) := loadN_at k0 (by simp [rulesC])
  ((repeat (first | refine ya (by (with_reducible constructor) <;> first | rfl | decide) ?_ | apply yb | refine yc rfl ?_ | ((first | apply yd | apply ye); simp (disch := first | exact yn | omega | (simp only [go_sem]; done) | (simp only [ln, ym]; omega) | (repeat' first | assumption | exact yo _ | refine yp ?_ _)) only [go_sem]; with_reducible rfl))))
  refine cond_p rfl (fun hne => ?_) (fun heq => ?_)
  · have ev : resL kind deg num den step l x = ([], resErrL kind deg num den step l x) := by unfold resL; rw [if_neg hne]
    rw [ev]
    ((repeat (first | refine ya (by (with_reducible constructor) <;> first | rfl | decide) ?_ | apply yb | refine yc rfl ?_ | ((first | apply yd | apply ye); simp (disch := first | exact yn | omega | (simp only [go_sem]; done) | (simp only [ln, ym]; omega) | (repeat' first | assumption | exact yo _ | refine yp ?_ _)) only [go_sem]; with_reducible rfl))))
    exact fin_2 ⟨_, rfl, xH2, OwnI.nil _ _⟩
  have hz := Decidable.not_not.1 heq
  obtain ⟨hr, hs⟩ := resErr_ok hz
  have hd := rules_deg hr
  obtain ⟨s1, s2⟩ := signalErr_ok hs
  have hX2 := hX.ext xH2
  ((repeat (first | refine ya (by (with_reducible constructor) <;> first | rfl | decide) ?_ | apply yb | refine yc rfl ?_ | ((first | apply yd | apply ye); simp (disch := first | exact yn | omega | (simp only [go_sem]; done) | (simp only [ln, ym]; omega) | (repeat' first | assumption | exact yo _ | refine yp ?_ _)) only [go_sem, hX2.len, hX2.idx, hX2.load, k6]; with_reducible rfl))))
  refine aops_call ((outputs_c (count := (x.length : Int)) (hl.ext xH2) hr ⟨by omega, by omega⟩).mono fun u G3 hu => ?_)
  obtain ⟨rfl, rfl⟩ := hu
  obtain ⟨ol, otw⟩ := outs_two kind num den step (x.length : Int) l
  have hin := outs_in (count := (x.length : Int)) hr
  have ev : resL kind deg num den step l x = if (outsR kind num den step l x.length).2 = 0 then ((outsR kind num den step l x.length).1.map (yL deg x), 0) else ([], (outsR kind num den step l x.length).2) := by unfold resL; rw [if_pos hz]
  rw [ev]
  rcases otw with h0 | h8
  rotate_left 1
  · rw [h8]
    ((repeat (first | refine ya (by (with_reducible constructor) <;> first | rfl | decide) ?_ | apply yb | refine yc rfl ?_ | ((first | apply yd | apply ye); simp (disch := first | exact yn | omega | (simp only [go_sem]; done) | (simp only [ln, ym]; omega) | (repeat' first | assumption | exact yo _ | refine yp ?_ _)) only [go_sem]; with_reducible rfl))))
    refine cond_t rfl ?_
    ((repeat (first | refine ya (by (with_reducible constructor) <;> first | rfl | decide) ?_ | apply yb | refine yc rfl ?_ | ((first | apply yd | apply ye); simp (disch := first | exact yn | omega | (simp only [go_sem]; done) | (simp only [ln, ym]; omega) | (repeat' first | assumption | exact yo _ | refine yp ?_ _)) only [go_sem]; with_reducible rfl))))
    exact fin_2 ⟨_, rfl, xH2.app _, OwnI.nil _ _⟩
  rw [h0, if_pos rfl]
  generalize (outsR kind num den step l x.length).1 = qs at ol hin ⊢
  ((repeat (first | refine ya (by (with_reducible constructor) <;> first | rfl | decide) ?_ | apply yb | refine yc rfl ?_ | ((first | apply yd | apply ye); simp (disch := first | exact yn | omega | (simp only [go_sem]; done) | (simp only [ln, ym]; omega) | (repeat' first | assumption | exact yo _ | refine yp ?_ _)) only [go_sem]; with_reducible rfl))))
  refine cond_f rfl ?_
  have xG3 : Ext G2 (G2 ++ retN 1 qs.length (qs.map (.int .i64))) := ⟨_, rfl⟩
  have hx3 := (hx.trans xH2).trans xG3
  have n0 := xG3.cell k0
  have hdg : loadR (.pointer (some ⟨H.length, 1, none⟩)) (G2 ++ retN 1 qs.length (qs.map (.int .i64))) = some (.int .i64 deg, G2 ++ retN 1 qs.length (qs.map (.int .i64))) := by rw [load_at n0]; rfl
  have hR : Ints (G2 ++ retN 1 qs.length (qs.map (.int .i64)) ++ [AObj.cells true 0 (kern deg)]) qs (retV G2 qs.length) := Ints.ret.ext ((Ext.refl _).app _)
  ((repeat (first | refine ya (by (with_reducible constructor) <;> first | rfl | decide) ?_ | apply yb | refine yc rfl ?_ | ((first | apply yd | apply ye); simp (disch := first | exact yn | omega | (simp only [go_sem]; done) | (simp only [ln, ym]; omega) | (repeat' first | assumption | exact yo _ | refine yp ?_ _)) only [go_sem, hR.len, hR.idx, hR.load, hdg, kern_idx hd, kern_load hx3 hd, store_kern]; with_reducible rfl))))
  by_cases hn : qs.length = 0
  · have hq0 : qs = [] := List.length_eq_zero_iff.1 hn
    subst hq0
    refine awp_loop_n [false, false, false, false, false, false, false, true, false, false, false, false, false, false, false, false, false, false, false, false, false, false, false, false, false, false, false, false, false, false, false, false, false, false, false, false, true, true, true, false, false, false, false, false, false, false, false, false, false, false, false, false, false, false, false, false, false, false, false, false, false, false, false] 0 (fun i e H' => H' = G2 ++ retN 1 0 [] ++ [AObj.cells true 0 (kern deg)] ∧ e = [junk, junk, junk, junk, junk, junk, junk, retV G2 0, junk, junk, junk, junk, junk, junk, junk, junk, junk, junk, junk, junk, junk, junk, junk, junk, junk, junk, junk, junk, junk, junk, junk, junk, junk, junk, junk, junk, retV G2 0, .int .i64 ((0 : Nat) : Int), .int .i64 i, junk, junk, junk, junk, junk, junk, junk, junk, junk, junk, junk, junk, junk, junk, junk, junk, junk, junk, junk, junk, junk, junk, junk, junk]) ?_ ?_
    · exact ⟨rfl, by simp [forget]⟩
    rintro i e H' hi ⟨rfl, rfl⟩
    obtain rfl : i = 0 := by omega
    ((repeat (first | refine ya (by (with_reducible constructor) <;> first | rfl | decide) ?_ | apply yb | refine yc rfl ?_ | ((first | apply yd | apply ye); simp (disch := first | exact yn | omega | (simp only [go_sem]; done) | (simp only [ln, ym]; omega) | (repeat' first | assumption | exact yo _ | refine yp ?_ _)) only [go_sem, dec_f (show ¬ ((0 : Nat) : Int) < ((0 : Nat) : Int) by decide)]; with_reducible rfl))))
    refine cond_f rfl ?_
    ((repeat (first | refine ya (by (with_reducible constructor) <;> first | rfl | decide) ?_ | apply yb | refine yc rfl ?_ | ((first | apply yd | apply ye); simp (disch := first | exact yn | omega | (simp only [go_sem]; done) | (simp only [ln, ym]; omega) | (repeat' first | assumption | exact yo _ | refine yp ?_ _)) only [go_sem]; with_reducible rfl))))
    exact fin_2 ⟨_, rfl, (xH2.app _).app _, OwnI.nil _ _⟩
  have erV : retV G2 qs.length = .slice (some ⟨G2.length, 0, none⟩) qs.length qs.length := by unfold retV; rw [if_neg hn]
  have erN : G2 ++ retN 1 qs.length (qs.map (.int .i64)) ++ [AObj.cells true 0 (kern deg)] = kernH G2 qs deg := by unfold retN kernH; rw [if_neg hn]
  have erL : (G2 ++ retN 1 qs.length (qs.map (.int .i64))).length = G2.length + 1 := by unfold retN; rw [if_neg hn]; simp
  rw [erN, erL, erV]
  obtain ⟨n, hnn⟩ : ∃ n, qs.length = n := ⟨_, rfl⟩
  rw [hnn]
  refine awp_loop_n [false, true, false, false, false, false, false, true, false, true, false, false, false, false, false, false, false, false, false, false, false, false, false, false, false, false, false, false, false, false, false, false, false, false, false, false, true, true, true, false, false, false, false, false, false, false, false, false, false, false, false, false, false, false, false, false, false, false, false, false, false, false, false] n (fun i e H' => H' = kernH G2 (midL qs (yL deg x) i) deg ∧ e = [junk, w, junk, junk, junk, junk, junk, .slice (some ⟨G2.length, 0, none⟩) n n, junk, .pointer (some ⟨G2.length + 1, 0, none⟩), junk, junk, junk, junk, junk, junk, junk, junk, junk, junk, junk, junk, junk, junk, junk, junk, junk, junk, junk, junk, junk, junk, junk, junk, junk, junk, .slice (some ⟨G2.length, 0, none⟩) n n, .int .i64 n, .int .i64 i, junk, junk, junk, junk, junk, junk, junk, junk, junk, junk, junk, junk, junk, junk, junk, junk, junk, junk, junk, junk, junk, junk, junk, junk]) ?_ ?_
  · exact ⟨by rw [midL_zero], by simp [forget]⟩
  rintro i e H' hi ⟨rfl, rfl⟩
  have hml : (midL qs (yL deg x) i).length = n := by rw [midL_len, hnn]
  have ho := kernH_ints (G := G2) (deg := deg) hml
  have hXm := hX2.ext (kernH_x (G := G2) (m := midL qs (yL deg x) i) (deg := deg))
  ((repeat (first | refine ya (by (with_reducible constructor) <;> first | rfl | decide) ?_ | apply yb | refine yc rfl ?_ | ((first | apply yd | apply ye); simp (disch := first | exact yn | omega | (simp only [go_sem]; done) | (simp only [ln, ym]; omega) | (repeat' first | assumption | exact yo _ | refine yp ?_ _)) only [go_sem]; with_reducible rfl))))
  refine cond_p rfl (fun hlt => ?_) (fun hge => ?_)
  · have hi' : i < qs.length := by omega
    have hq := hin i hi'
    have eg := midL_getD (y := yL deg x) hi'
    have vb := value_bound (q := qs.getD i 0) hd s2 hq.1
    have db := den_bound deg
    have kk := kernH_k (G := G2) (m := midL qs (yL deg x) i) (deg := deg)
    have fb := ediv_bound (n := 2 * valueL deg x (qs.getD i 0) + denL deg) (b := 2 * denL deg) (m := 4000000000000000000) (by omega) ⟨by omega, by omega⟩
    have hst := store_cellI (n := n) (c := n) (i := i) (kernH_s (G := G2) (m := midL qs (yL deg x) i) (deg := deg)) (by omega) (yL deg x (qs.getD i 0))
    rw [kernH_set, midL_set hi'] at hst
    have ey : min (max ((2 * valueL deg x (qs.getD i 0) + denL deg) / (2 * denL deg)) (-32767)) 32767 = yL deg x (qs.getD i 0) := rfl
    ((repeat (first | refine ya (by (with_reducible constructor) <;> first | rfl | decide) ?_ | apply yb | refine yc rfl ?_ | ((first | apply yd | apply ye); simp (disch := first | exact yn | omega | (simp only [go_sem]; done) | (simp only [ln, ym]; omega) | (repeat' first | assumption | exact yo _ | refine yp ?_ _)) only [go_sem, ho.len, ho.idx, ho.load, eg, kern_all kk]; with_reducible rfl))))
    refine adraw_call (N := []) (firstD (value_c hd hXm s1 s2 hq)) ?_
    rw [List.append_nil]
    ((repeat (first | refine ya (by (with_reducible constructor) <;> first | rfl | decide) ?_ | apply yb | refine yc rfl ?_ | ((first | apply yd | apply ye); simp (disch := first | exact yn | omega | (simp only [go_sem]; done) | (simp only [ln, ym]; omega) | (repeat' first | assumption | exact yo _ | refine yp ?_ _)) only [go_sem, kern_den kk]; with_reducible rfl))))
    refine adraw_call (N := []) (firstD (rfloor_c _ _ (by omega) (by omega))) ?_
    rw [List.append_nil]
    ((repeat (first | refine ya (by (with_reducible constructor) <;> first | rfl | decide) ?_ | apply yb | refine yc rfl ?_ | ((first | apply yd | apply ye); simp (disch := first | exact yn | omega | (simp only [go_sem]; done) | (simp only [ln, ym]; omega) | (repeat' first | assumption | exact yo _ | refine yp ?_ _)) only [go_sem, ho.len, ho.idx, ho.load, ey, hst]; with_reducible rfl))))
    exact ⟨by omega, rfl, by simp [forget]⟩
  · obtain rfl : i = n := by omega
    ((repeat (first | refine ya (by (with_reducible constructor) <;> first | rfl | decide) ?_ | apply yb | refine yc rfl ?_ | ((first | apply yd | apply ye); simp (disch := first | exact yn | omega | (simp only [go_sem]; done) | (simp only [ln, ym]; omega) | (repeat' first | assumption | exact yo _ | refine yp ?_ _)) only [go_sem]; with_reducible rfl))))
    have em : midL qs (yL deg x) i = qs.map (yL deg x) := by rw [← hnn]; exact midL_all
    rw [em]
    refine fin_2 ⟨_, rfl, xH2.trans kernH_x, ?_⟩
    refine ⟨by simp, .inr ⟨G2.length, by simp [hnn], xH2.len, by simp; omega, ?_⟩⟩
    exact kernH_s
end
end Go.Lq

namespace Go.Lq

theorem outN_many {f : Nat → Int} {B : Int} {m : Nat} (hm : m ≤ 2000) (h1 : ∀ j : Nat, j < m → f j ≤ B) (h2 : B < f m) : ∀ {n k : Nat}, k ≤ m → m < k + n → outN f B k n = (m, 0)
  | 0, k, a, b => by omega
  | n + 1, k, a, b => by
    rw [outN_succ]
    by_cases e : k = m
    · subst e; rw [if_pos h2]
    · have := h1 k (by omega)
      rw [if_neg (by omega), if_neg (by omega)]
      exact outN_many hm h1 h2 (by omega) (by omega)
theorem outs_many {num den step count : Int} {l : List (Int × Int)} {m : Nat} (hm : m ≤ 2000) (h1 : ∀ j : Nat, j < m → ratioF num den j ≤ 64 * (count - 1)) (h2 : 64 * (count - 1) < ratioF num den m) :
    outsR 0 num den step l count = (outTo (ratioF num den) m, 0) := by
  have e : outsR 0 num den step l count = outsL (ratioF num den) 2001 count := by unfold outsR outF outC; rw [if_pos rfl, if_pos rfl]
  rw [e]; unfold outsL
  rw [outN_many hm h1 h2 (Nat.zero_le _) (by omega)]
theorem value_at {deg : Int} {x : List Int} {i : Nat} (hd : deg = 1 ∨ deg = 3) (hi : i < x.length) : valueL deg x (64 * (i : Int)) = denL deg * x.getD i 0 := by
  have e1 : 64 * (i : Int) % 64 = 0 := by omega
  have e2 : 64 * (i : Int) / 64 = i := by omega
  unfold valueL
  rw [e1, e2]
  rcases hd with rfl | rfl
  · have c0 : clampI x.length ((i : Int) + 0 + ((0 : Nat) : Int)) = i := by unfold clampI; omega
    show 0 + (64 - 0) * x.getD (clampI x.length ((i : Int) + 0 + ((0 : Nat) : Int))) 0 + 0 * _ = 64 * _
    rw [c0, Int.zero_mul]; omega
  · have c0 : clampI x.length ((i : Int) + -1 + ((1 : Nat) : Int)) = i := by unfold clampI; omega
    show 0 + 0 * _ + 1572864 * x.getD (clampI x.length ((i : Int) + -1 + ((1 : Nat) : Int))) 0 + 0 * _ + 0 * _ = 1572864 * _
    rw [c0, Int.zero_mul, Int.zero_mul, Int.zero_mul]; omega
theorem y_at {deg : Int} {x : List Int} {i : Nat} (hd : deg = 1 ∨ deg = 3) (hi : i < x.length) (hb : ∀ j : Nat, -32767 ≤ x.getD j 0 ∧ x.getD j 0 ≤ 32767) : yL deg x (64 * (i : Int)) = x.getD i 0 := by
  unfold yL
  rw [value_at hd hi]
  have := hb i
  have e : (2 * (denL deg * x.getD i 0) + denL deg) / (2 * denL deg) = x.getD i 0 := by
    rcases hd with rfl | rfl
    · show (2 * (64 * x.getD i 0) + 64) / (2 * 64) = _; omega
    · show (2 * (1572864 * x.getD i 0) + 1572864) / (2 * 1572864) = _; omega
  rw [e]; omega
theorem y_in (deg : Int) (x : List Int) (q : Int) : -32767 ≤ yL deg x q ∧ yL deg x q ≤ 32767 := by unfold yL; omega
theorem signal_of {x : List Int} (h1 : x.length ≤ 400) (h2 : ∀ j : Nat, -32767 ≤ x.getD j 0 ∧ x.getD j 0 ≤ 32767) : signalErrL x = 0 := by
  unfold signalErrL
  rw [if_neg (by omega), if_pos]
  rw [List.all_eq_true]
  intro n hn
  obtain ⟨j, hj, rfl⟩ := List.mem_iff_getElem.1 hn
  have := h2 j
  rw [List.getD_eq_getElem?_getD, List.getElem?_eq_getElem hj] at this
  exact decide_eq_true this
theorem rulesErr_r {deg num den : Int} (hd : deg = 1 ∨ deg = 3) (hn : 1 ≤ num ∧ num ≤ 1000) (hD : 1 ≤ den ∧ den ≤ 1000) : rulesErrL 0 deg num den 0 [] = 0 := by
  unfold rulesErrL
  rw [if_pos (by omega), if_pos (by unfold degErrL; rw [if_pos hd]), if_pos rfl]
  unfold ratioErrL
  rw [if_pos ⟨hn, hD⟩, firstErr_z, if_pos ⟨rfl, rfl⟩, firstErr_z]; rfl
theorem res_many {deg num den : Int} {x : List Int} {m : Nat} (hd : deg = 1 ∨ deg = 3) (hn : 1 ≤ num ∧ num ≤ 1000) (hD : 1 ≤ den ∧ den ≤ 1000) (hs : signalErrL x = 0) (hm : m ≤ 2000)
    (h1 : ∀ j : Nat, j < m → ratioF num den j ≤ 64 * ((x.length : Int) - 1)) (h2 : 64 * ((x.length : Int) - 1) < ratioF num den m) :
    resL 0 deg num den 0 [] x = ((outTo (ratioF num den) m).map (yL deg x), 0) := by
  have e : resErrL 0 deg num den 0 [] x = 0 := by unfold resErrL; rw [rulesErr_r hd hn hD, firstErr_z, hs, firstErr_z]; rfl
  unfold resL
  rw [if_pos e, outs_many hm h1 h2, if_pos rfl]
def upN (n : Nat) (x : List Int) : Nat := if x.length = 0 then 0 else n * (x.length - 1) + 1
def upL (deg : Int) (n : Nat) (x : List Int) : List Int := (outTo (ratioF 1 n) (upN n x)).map (yL deg x)
theorem up_len {deg : Int} {n : Nat} {x : List Int} : (upL deg n x).length = upN n x := by unfold upL; rw [List.length_map, outTo_len]
theorem two_of {n : Nat} (h : n = 1 ∨ n = 2 ∨ n = 4 ∨ n = 8 ∨ n = 16) : ∃ g : Nat, 1 ≤ g ∧ n * g = 64 ∧ 1 ≤ n ∧ n ≤ 16 := by
  rcases h with rfl | rfl | rfl | rfl | rfl
  · exact ⟨64, by omega⟩
  · exact ⟨32, by omega⟩
  · exact ⟨16, by omega⟩
  · exact ⟨8, by omega⟩
  · exact ⟨4, by omega⟩
theorem ratio_up {n g : Nat} (h : n * g = 64) (hn : 1 ≤ n) (k : Nat) : ratioF 1 n k = g * k := by
  unfold ratioF
  rw [Int.mul_one]
  have e : 64 * (k : Int) = (n : Int) * (g * k) := by rw [← Int.mul_assoc]; exact congrArg (· * (k : Int)) (by omega)
  rw [e]
  exact Int.mul_ediv_cancel_left _ (by omega)
theorem upN_le {n : Nat} {x : List Int} (h : n ≤ 16) (hx : x.length ≤ 24) : upN n x ≤ 2000 := by
  unfold upN
  split
  · omega
  · have := Nat.mul_le_mul h (show x.length - 1 ≤ 23 by omega)
    omega
theorem up_res {deg : Int} {n : Nat} {x : List Int} (hd : deg = 1 ∨ deg = 3) (hn : n = 1 ∨ n = 2 ∨ n = 4 ∨ n = 8 ∨ n = 16) (hs : signalErrL x = 0) (hx : x.length ≤ 24) : resL 0 deg 1 n 0 [] x = (upL deg n x, 0) := by
  obtain ⟨g, g1, g2, g3, g4⟩ := two_of hn
  refine res_many hd (by omega) (by omega) hs (upN_le g4 hx) (fun j hj => ?_) ?_
  · rw [ratio_up g2 g3]
    unfold upN at hj
    split at hj
    · omega
    · have h1 : g * j ≤ g * (n * (x.length - 1)) := Nat.mul_le_mul_left _ (by omega)
      rw [← Nat.mul_assoc, Nat.mul_comm g n, g2] at h1
      have h2 : ((g * j : Nat) : Int) ≤ ((64 * (x.length - 1) : Nat) : Int) := by exact_mod_cast h1
      have h3 : ((g * j : Nat) : Int) = (g : Int) * (j : Int) := by push_cast; rfl
      omega
  · rw [ratio_up g2 g3]
    unfold upN
    split
    · have : (g : Int) * ((0 : Nat) : Int) = 0 := by simp
      omega
    · have h1 : g * (n * (x.length - 1) + 1) = 64 * (x.length - 1) + g := by rw [Nat.mul_add, ← Nat.mul_assoc, Nat.mul_comm g n, g2, Nat.mul_one]
      have h3 : ((g * (n * (x.length - 1) + 1) : Nat) : Int) = (g : Int) * ((n * (x.length - 1) + 1 : Nat) : Int) := by push_cast; rfl
      omega
theorem up_at {deg : Int} {n : Nat} {x : List Int} (hd : deg = 1 ∨ deg = 3) (hn : n = 1 ∨ n = 2 ∨ n = 4 ∨ n = 8 ∨ n = 16) (hb : ∀ j : Nat, -32767 ≤ x.getD j 0 ∧ x.getD j 0 ≤ 32767) {i : Nat} (hi : i < x.length) :
    n * i < upN n x ∧ (upL deg n x).getD (n * i) 0 = x.getD i 0 := by
  obtain ⟨g, g1, g2, g3, g4⟩ := two_of hn
  have h1 : n * i ≤ n * (x.length - 1) := Nat.mul_le_mul_left _ (by omega)
  have h2 : n * i < upN n x := by unfold upN; split <;> omega
  refine ⟨h2, ?_⟩
  unfold upL outTo
  rw [List.map_map, List.getD_eq_getElem?_getD, List.getElem?_map, List.getElem?_range h2]
  show yL deg x (ratioF 1 n (n * i)) = _
  rw [ratio_up g2 g3]
  have h3 : (g : Int) * ((n * i : Nat) : Int) = 64 * (i : Int) := by
    push_cast
    rw [← Int.mul_assoc]
    exact congrArg (· * (i : Int)) (by have e : ((n * g : Nat) : Int) = 64 := by rw [g2]; rfl
                                       push_cast at e; rw [Int.mul_comm]; exact e)
  rw [h3]
  exact y_at hd hi hb
theorem map_in {deg : Int} {x : List Int} {l : List Int} (j : Nat) : -32767 ≤ (l.map (yL deg x)).getD j 0 ∧ (l.map (yL deg x)).getD j 0 ≤ 32767 := by
  rw [List.getD_eq_getElem?_getD, List.getElem?_map]
  cases l[j]? with
  | none => show (-32767 : Int) ≤ 0 ∧ (0 : Int) ≤ 32767; omega
  | some q => exact y_in deg x q
theorem down_res {deg : Int} {n : Nat} {x : List Int} (hd : deg = 1 ∨ deg = 3) (hn : n = 1 ∨ n = 2 ∨ n = 4 ∨ n = 8 ∨ n = 16) (hb : ∀ j : Nat, -32767 ≤ x.getD j 0 ∧ x.getD j 0 ≤ 32767) (hx : x.length ≤ 24) (hl : upN n x ≤ 400) :
    resL 0 deg n 1 0 [] (upL deg n x) = (x, 0) := by
  obtain ⟨g, g1, g2, g3, g4⟩ := two_of hn
  have hub : ∀ j : Nat, -32767 ≤ (upL deg n x).getD j 0 ∧ (upL deg n x).getD j 0 ≤ 32767 := fun j => map_in j
  have hs : signalErrL (upL deg n x) = 0 := signal_of (by rw [up_len]; exact hl) hub
  have hf : ∀ k : Nat, ratioF n 1 k = 64 * ((n * k : Nat) : Int) := fun k => by
    unfold ratioF
    rw [Int.ediv_one]
    push_cast
    rw [Int.mul_assoc, Int.mul_comm (k : Int) n]
  have c1 : ∀ j : Nat, j < x.length → ratioF n 1 j ≤ 64 * (((upL deg n x).length : Int) - 1) := fun j hj => by
    rw [hf, up_len]
    obtain ⟨h3, _⟩ := up_at hd hn hb hj
    omega
  have c2 : 64 * (((upL deg n x).length : Int) - 1) < ratioF n 1 x.length := by
    rw [hf, up_len]
    unfold upN
    split
    · rename_i h0; rw [h0, Nat.mul_zero]; omega
    · have h1 : n * x.length = n * (x.length - 1) + n := by
        obtain ⟨p, hp⟩ : ∃ p, x.length = p + 1 := ⟨x.length - 1, by omega⟩
        rw [hp, Nat.add_sub_cancel, Nat.mul_add, Nat.mul_one]
      omega
  rw [res_many (m := x.length) hd (by omega) (by omega) hs (by omega) c1 c2]
  refine Prod.ext ?_ rfl
  show (outTo (ratioF n 1) x.length).map (yL deg (upL deg n x)) = x
  unfold outTo
  rw [List.map_map]
  refine List.ext_getElem (by simp) fun j h1 h2 => ?_
  rw [List.getElem_map, List.getElem_range]
  show yL deg (upL deg n x) (ratioF n 1 j) = _
  rw [hf]
  obtain ⟨h3, h4⟩ := up_at hd hn hb h2
  rw [y_at hd (by rw [up_len]; exact h3) hub, h4, List.getD_eq_getElem?_getD, List.getElem?_eq_getElem h2]; rfl
end Go.Lq

namespace Go.Lq
open Go
open Go.Proofs

theorem Pairs.none {H : AHeap} : Pairs H [] (.slice none 0 0) := ⟨rfl, .inl ⟨rfl, rfl⟩⟩
end Go.Lq

namespace Go.Lq
open Go
open Go.Proofs

theorem repEqualizerT {H : AHeap} {v : Value} (h : RepA Tryd.prog H 60 v) : ∃ f s d, v = .agg ⟨[.int .i64 f, .int .i64 s, .int .i64 d]⟩ ∧ InI64 f ∧ InI64 s ∧ InI64 d := by
  obtain ⟨l, rfl, hl, hi⟩ := h.recI (d := 5) (n := 3) (.inl ⟨_, Tryd.underlying60⟩) (by kernel_rfl) (by kernel_rfl)
  match l, hl with
  | [f, s, d], _ => exact ⟨f, s, d, rfl, hi f (by simp), hi s (by simp), hi d (by simp)⟩

end Go.Lq


namespace Go.Lq
open Go
open Go.Proofs

theorem lowF_div_neg {n d : Int} (hd : 0 < d) : (-(lowF n d).1) / (lowF n d).2 = (-n) / d := by
  have h1 := gcdI_pos (n := n) hd
  have h2 := Int.mul_ediv_mul_of_pos (-(lowF n d).1) (lowF n d).2 h1
  rw [Int.mul_neg, lowF_mul.1, lowF_mul.2] at h2
  exact h2.symm
theorem lowF_nn {n d : Int} (hn : 0 ≤ n) (hd : 0 < d) : 0 ≤ (lowF n d).1 := Int.ediv_nonneg hn (Int.le_of_lt (gcdI_pos hd))
theorem floor_le_ceil {n d : Int} (hd : 0 < d) : n / d ≤ -((-n) / d) := by
  have h1 := Int.mul_ediv_self_le (x := n) (k := d) (by omega)
  have h2 := Int.mul_ediv_self_le (x := -n) (k := d) (by omega)
  have h3 : d * (n / d + (-n) / d) ≤ d * 0 := by rw [Int.mul_add]; omega
  have := Int.le_of_mul_le_mul_left h3 hd
  omega
theorem quo_within {s n d : Int} (hd : 0 < d) (h : -n ≤ s ∧ s ≤ n) : -(-((-n) / d)) ≤ s / d ∧ s / d ≤ -((-n) / d) := by
  have h1 := Int.ediv_le_ediv hd h.1
  have h2 := Int.ediv_le_ediv hd h.2
  have h3 := floor_le_ceil (n := n) hd
  omega
section
variable {H : AHeap}
theorem isLowest_c {p : Int × Int} (h1 : -4000000000000000000 ≤ p.1 ∧ p.1 ≤ 4000000000000000000) (h2 : 0 < p.2 ∧ p.2 ≤ 4000000000000000000) :
    ACall Go.Proofs.Tryd.prog 65 [fracV p] H fun v H' => v = .bool (decide (gcdI p.1 p.2 = 1)) ∧ H' = H := by
  refine ACall.drop (.bool _) ?_
  obtain ⟨n, d⟩ := p
  dsimp only at h1 h2 ⊢
  (refine a65 ?_; simp only [n65, List.replicate, yq, yr, yt, yu]; first | refine q1 ?_ | refine q2 ?_ | refine q6 ?_ | refine q7 ?_ | refine qh rfl ?_ | skip)
  have g0 : (H ++ [AObj.cells true 0 [.int .i64 n, .int .i64 d]])[H.length]? = some (.cells true 0 [.int .i64 n, .int .i64 d]) := at_new
  have xG : Ext H (H ++ [AObj.cells true 0 [.int .i64 n, .int .i64 d]]) := (Ext.refl H).app _
  ((repeat (first | refine ya (by (with_reducible constructor) <;> first | rfl | decide) ?_ | apply yb | refine yc rfl ?_ | ((first | apply yd | apply ye); simp (disch := first | exact yn | omega | (simp only [go_sem]; done) | (simp only [ln, ym]; omega) | (repeat' first | assumption | exact yo _ | refine yp ?_ _)) only [go_sem, dec_t h2.1]; with_reducible rfl))))
  refine aops_call_to (bgcd_c n d h1 (by omega)) ?_
  ((repeat (first | refine ya (by (with_reducible constructor) <;> first | rfl | decide) ?_ | apply yb | refine yc rfl ?_ | ((first | apply yd | apply ye); simp (disch := first | exact yn | omega | (simp only [go_sem]; done) | (simp only [ln, ym]; omega) | (repeat' first | assumption | exact yo _ | refine yp ?_ _)) only [go_sem]; with_reducible rfl))))
  exact fin_1 ⟨rfl, xG⟩
end
end Go.Lq

namespace Go.Lq
open Go
open Go.Proofs

theorem repFilter {H : AHeap} {v : Value} (h : RepA Tryd.prog H 83 v) : ∃ s c d, v = .agg ⟨[s, .int .i64 d]⟩ ∧ Ints H c s ∧ c.length ≤ maxLen ∧ (∀ n ∈ c, InI64 n) ∧ InI64 d := by
  obtain ⟨s, l, rfl, hl, hs, hi⟩ := h.headed (d := 5) (n := 1) Tryd.underlying83 (by kernel_rfl) rfl rfl (by kernel_rfl) (by kernel_rfl) (by kernel_rfl)
  match l, hl with
  | [d], _ =>
    obtain ⟨c, h1, h2, h3⟩ := (RepA.of_slice Tryd.underlying27 hs).ints Tryd.underlying27 Tryd.underlying3 (by kernel_rfl)
    exact ⟨s, c, d, rfl, h1, h2, h3, hi d (by simp)⟩

end Go.Lq

namespace Go.Lq
open Go
open Go.Proofs

def mostTo (x : List Int) : Nat → Int
  | 0 => 0
  | j + 1 => max (mostTo x j) (max (x.getD j 0) (-(x.getD j 0)))
theorem mostTo_bound {x : List Int} (h : ∀ i : Nat, -32767 ≤ x.getD i 0 ∧ x.getD i 0 ≤ 32767) : ∀ j : Nat, 0 ≤ mostTo x j ∧ mostTo x j ≤ 32767
  | 0 => by simp [mostTo]
  | j + 1 => by
    have ih := mostTo_bound h j
    have := h j
    unfold mostTo
    omega
theorem mostTo_le {x : List Int} : ∀ {j i : Nat}, i < j → -(mostTo x j) ≤ x.getD i 0 ∧ x.getD i 0 ≤ mostTo x j
  | j + 1, i, h => by
    unfold mostTo
    by_cases hi : i = j
    · subst hi; omega
    · have := mostTo_le (x := x) (show i < j by omega)
      omega
end Go.Lq

