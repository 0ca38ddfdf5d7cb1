/- Towards TopResampleChain of seat YtlcfgealkjomnaaDoor: it returns true for every input. Made out of the proof's own texts, merged. -/
import Derived.Test.YtlcfgealkjomnaaDoorV192
set_option linter.unusedSimpArgs false
set_option linter.unnecessarySimpa false
set_option linter.unusedVariables false
set_option maxRecDepth 100000
namespace Go.Lq

def holdsB (s d amp b : Int) : Prop := amp - (-(s * b)) / d ≤ b
instance (s d amp b : Int) : Decidable (holdsB s d amp b) := inferInstanceAs (Decidable (_ ≤ _))
def stableW (s d amp : Int) : Int := -((-(amp * d)) / (d - s))
theorem holds_iff {s d amp b : Int} (hd : 0 < d) : holdsB s d amp b ↔ amp * d + s * b ≤ d * b := by
  unfold holdsB
  have h := Int.le_ediv_iff_mul_le hd (a := amp - b) (b := -(s * b))
  have e : (amp - b) * d = amp * d - d * b := by rw [Int.sub_mul, Int.mul_comm b d]
  rw [e] at h
  constructor
  · intro h1; have := h.1 (by omega); omega
  · intro h1; have := h.2 (by omega); omega
theorem holds_stable {s d amp b : Int} (hd : 0 < d) (hs : s < d) : holdsB s d amp b ↔ stableW s d amp ≤ b := by
  rw [holds_iff hd]
  unfold stableW
  have h := Int.le_ediv_iff_mul_le (show 0 < d - s by omega) (a := -b) (b := -(amp * d))
  have e : -b * (d - s) = s * b - d * b := by rw [Int.mul_sub, Int.neg_mul, Int.neg_mul, Int.mul_comm b d, Int.mul_comm b s]; omega
  rw [e] at h
  constructor
  · intro h1; have := h.2 (by omega); omega
  · intro h1; have := h.1 (by omega); omega
theorem stableW_nn {s d amp : Int} (ha : 0 ≤ amp) (hd : 0 < d) (hs : s < d) : 0 ≤ stableW s d amp := by
  unfold stableW
  have h1 := Int.mul_nonneg ha (Int.le_of_lt hd)
  have h2 := Int.ediv_le_ediv (show 0 < d - s by omega) (show -(amp * d) ≤ (d - s) * 0 by omega)
  rw [Int.mul_ediv_cancel_left _ (by omega)] at h2
  omega
theorem stableW_le {s d amp : Int} (ha : 0 ≤ amp ∧ amp ≤ 32767) (hd : 1 ≤ d ∧ d ≤ 1000) (hs : s < d) : stableW s d amp ≤ 32767000 := by
  unfold stableW
  have h1 := mul_abs (x := amp) (y := d) (a := 32767) (b := 1000) ⟨by omega, by omega⟩ ⟨by omega, by omega⟩
  have h2 := ediv_bound (n := -(amp * d)) (b := d - s) (m := 32767000) (by omega) ⟨by omega, by omega⟩
  omega

def szI (n : Int) : Int := max n (-n)
def sgI (n : Int) : Int := if n < 0 then -1 else if 0 < n then 1 else 0
theorem mul_sg (n : Int) : n * sgI n = szI n := by
  unfold sgI szI
  split
  · omega
  · split <;> omega
def strTo (c : List Int) : Nat → Int
  | 0 => 0
  | j + 1 => strTo c j + szI (c.getD j 0)
def strL (c : List Int) : Int := strTo c c.length
theorem strTo_bound {c : List Int} {a : Nat} (hc : ∀ i : Nat, -(a : Int) ≤ c.getD i 0 ∧ c.getD i 0 ≤ a) : ∀ j : Nat, 0 ≤ strTo c j ∧ strTo c j ≤ ((a * j : Nat) : Int)
  | 0 => by simp [strTo]
  | j + 1 => by
    have ih := strTo_bound hc j
    have := hc j
    unfold strTo szI
    rw [Nat.mul_add, Nat.mul_one]
    omega
theorem sumTo_str {c x : List Int} {n : Nat} {M : Int} (hM : 0 ≤ M) (hx : ∀ i : Nat, -M ≤ x.getD i 0 ∧ x.getD i 0 ≤ M) : ∀ j : Nat, -(strTo c j * M) ≤ sumTo c x n j ∧ sumTo c x n j ≤ strTo c j * M
  | 0 => by simp [sumTo, strTo]
  | j + 1 => by
    have ih := sumTo_str (c := c) (n := n) hM hx j
    obtain ⟨m, rfl⟩ : ∃ m : Nat, M = m := ⟨M.toNat, by omega⟩
    have h1 := mul_abs (x := c.getD j 0) (y := x.getD (n - j) 0) (a := (c.getD j 0).natAbs) (b := m) (by omega) (hx (n - j))
    have e : szI (c.getD j 0) = ((c.getD j 0).natAbs : Int) := by unfold szI; omega
    unfold sumTo strTo
    rw [Int.add_mul, e, ← Int.natCast_mul]
    split
    · omega
    · have : 0 ≤ (((c.getD j 0).natAbs * m : Nat) : Int) := Int.natCast_nonneg _
      omega
def gcdI (a b : Int) : Int := (Int.gcd a b : Int)
def lowF (n d : Int) : Int × Int := (n / gcdI n d, d / gcdI n d)
theorem gcdI_pos {n d : Int} (hd : 0 < d) : 0 < gcdI n d := by
  unfold gcdI
  have := Int.gcd_pos_of_ne_zero_right n (show d ≠ 0 by omega)
  omega
theorem lowF_mul {n d : Int} : gcdI n d * (lowF n d).1 = n ∧ gcdI n d * (lowF n d).2 = d :=
  ⟨Int.mul_ediv_cancel' (Int.gcd_dvd_left ..), Int.mul_ediv_cancel' (Int.gcd_dvd_right ..)⟩
theorem lowF_pos {n d : Int} (hd : 0 < d) : 0 < (lowF n d).2 := by
  have h1 := gcdI_pos (n := n) hd
  have h2 := (lowF_mul (n := n) (d := d)).2
  rcases Int.lt_trichotomy (lowF n d).2 0 with h | h | h
  · have := Int.mul_neg_of_pos_of_neg h1 h; omega
  · rw [h, Int.mul_zero] at h2; omega
  · exact h
theorem lowF_gcd {n d : Int} (hd : 0 < d) : gcdI (lowF n d).1 (lowF n d).2 = 1 := by
  have h1 := gcdI_pos (n := n) hd
  have h2 : Int.gcd (gcdI n d * (lowF n d).1) (gcdI n d * (lowF n d).2) = (gcdI n d).natAbs * Int.gcd (lowF n d).1 (lowF n d).2 := Int.gcd_mul_left ..
  rw [lowF_mul.1, lowF_mul.2] at h2
  unfold gcdI at h1 h2 ⊢
  rw [Int.natAbs_natCast] at h2
  have h3 : Int.gcd n d * Int.gcd (lowF n d).1 (lowF n d).2 = Int.gcd n d * 1 := by omega
  have h4 := Nat.eq_of_mul_eq_mul_left (show 0 < Int.gcd n d by omega) h3
  omega
end Go.Lq

namespace Go.Lq
open Go
open Go.Proofs

theorem Ints.atom {H : AHeap} {l : List Int} {v : Value} (h : Ints H l v) : isAtom v = true := by
  rcases h.2 with ⟨rfl, _⟩ | ⟨id, off, c, rfl, _⟩ <;> rfl
theorem Ints.box2 {H : AHeap} {l : List Int} {v : Value} {n : Int} (h : Ints H l v) {H' : AHeap} : boxR (.agg ⟨[v, .int .i64 n]⟩) H' = some (.pointer (some ⟨H'.length, 0, none⟩), H' ++ [.cells true 0 [v, .int .i64 n]]) :=
  box_agg (by simp [h.atom, isAtom_int])
theorem n2_at {G : AHeap} {id : Nat} {a b : Value} (h : G[id]? = some (.cells true 0 [a, b])) : loadNR 2 (.pointer (some ⟨id, 0, none⟩)) G = some (.agg ⟨[a, b]⟩, G) := loadN_at h (by simp)
theorem any_not (l : List Int) (p : Int → Bool) : (l.any fun n => !p n) = !l.all p := by rw [← List.not_all_eq_any_not]
theorem fill2v {x y a : Value} {b : Int} (ha : isAtom a = true) : fillA [x, y] [(0, 1, a), (1, 1, .int .i64 b)] = some [a, .int .i64 b] := by
  have e : a.cells = ⟨[a]⟩ := by cases a <;> first | rfl | cases ha
  have h1 : fillA [x, y] [(0, 1, a), (1, 1, .int .i64 b)] = fillA [a, y] [(1, 1, .int .i64 b)] := by
    conv => lhs; unfold fillA
    rw [e, if_pos ⟨rfl, by simp, by simp [ha]⟩]
    rfl
  rw [h1, fillA_int (by simp)]
  rfl

section
variable {H : AHeap}
theorem rfloor_c (n b : Int) (hb : 0 < b ∧ b ≤ 1000000000000) (hn : -4000000000000000000 ≤ n ∧ n ≤ 4000000000000000000) :
    ACall Go.Proofs.Tryd.prog 91 [.int .i64 n, .int .i64 b] H fun v H' => v = .int .i64 (n / b) ∧ H' = H := by
  have hq := ediv_bound (n := n) (b := b) (m := 4000000000000000000) hb.1 ⟨by omega, by omega⟩
  have f := floor_neg (n := n) hb.1
  (refine a91 ?_; simp only [n91, List.replicate, yq, yr, yt, yu]; first | refine q1 ?_ | refine q2 ?_ | refine q6 ?_ | refine q7 ?_ | refine qh rfl ?_ | skip)
  ((repeat (first | refine ya (by (with_reducible constructor) <;> first | rfl | decide) ?_ | apply yb | refine yc rfl ?_ | ((first | apply yd | apply ye); simp (disch := first | exact yn | omega | (simp only [go_sem]; done) | (simp only [ln, ym]; omega) | (repeat' first | assumption | exact yo _ | refine yp ?_ _)) only [go_sem]; with_reducible rfl))))
  refine cond_p rfl (fun hneg => ?_) (fun hpos => ?_)
  · have e : (b - 1 - n).tdiv b = (b - 1 - n) / b := Int.tdiv_eq_ediv_of_nonneg (by omega)
    ((repeat (first | refine ya (by (with_reducible constructor) <;> first | rfl | decide) ?_ | apply yb | refine yc rfl ?_ | ((first | apply yd | apply ye); simp (disch := first | exact yn | omega | (simp only [go_sem]; done) | (simp only [ln, ym]; omega) | (repeat' first | assumption | exact yo _ | refine yp ?_ _)) only [go_sem, e]; with_reducible rfl))))
    refine fin_1 ⟨?_, rfl⟩
    rw [← f]
    simp
  · have e : n.tdiv b = n / b := Int.tdiv_eq_ediv_of_nonneg (by omega)
    ((repeat (first | refine ya (by (with_reducible constructor) <;> first | rfl | decide) ?_ | apply yb | refine yc rfl ?_ | ((first | apply yd | apply ye); simp (disch := first | exact yn | omega | (simp only [go_sem]; done) | (simp only [ln, ym]; omega) | (repeat' first | assumption | exact yo _ | refine yp ?_ _)) only [go_sem, e]; with_reducible rfl))))
    exact fin_1 ⟨rfl, rfl⟩

theorem isWeight_c (n : Int) : ACall Go.Proofs.Tryd.prog 115 [.int .i64 n] H fun v H' => v = .bool (decide (-1000 ≤ n ∧ n ≤ 1000)) ∧ H' = H := by
  (refine a115 ?_; simp only [n115, List.replicate, yq, yr, yt, yu]; first | refine q1 ?_ | refine q2 ?_ | refine q6 ?_ | refine q7 ?_ | refine qh rfl ?_ | skip)
  ((repeat (first | refine ya (by (with_reducible constructor) <;> first | rfl | decide) ?_ | apply yb | refine yc rfl ?_ | ((first | apply yd | apply ye); simp (disch := first | exact yn | omega | (simp only [go_sem]; done) | (simp only [ln, ym]; omega) | (repeat' first | assumption | exact yo _ | refine yp ?_ _)) only [go_sem]; with_reducible rfl))))
  refine aops_call_to (isSized_c _ _ (by omega)) ?_
  ((repeat (first | refine ya (by (with_reducible constructor) <;> first | rfl | decide) ?_ | apply yb | refine yc rfl ?_ | ((first | apply yd | apply ye); simp (disch := first | exact yn | omega | (simp only [go_sem]; done) | (simp only [ln, ym]; omega) | (repeat' first | assumption | exact yo _ | refine yp ?_ _)) only [go_sem]; with_reducible rfl))))
  exact fin_1 ⟨rfl, rfl⟩
theorem isDen_c (n : Int) : ACall Go.Proofs.Tryd.prog 116 [.int .i64 n] H fun v H' => v = .bool (decide (1 ≤ n ∧ n ≤ 1000)) ∧ H' = H := by
  (refine a116 ?_; simp only [n116, List.replicate, yq, yr, yt, yu]; first | refine q1 ?_ | refine q2 ?_ | refine q6 ?_ | refine q7 ?_ | refine qh rfl ?_ | skip)
  ((repeat (first | refine ya (by (with_reducible constructor) <;> first | rfl | decide) ?_ | apply yb | refine yc rfl ?_ | ((first | apply yd | apply ye); simp (disch := first | exact yn | omega | (simp only [go_sem]; done) | (simp only [ln, ym]; omega) | (repeat' first | assumption | exact yo _ | refine yp ?_ _)) only [go_sem]; with_reducible rfl))))
  refine aops_call_to (within_c _ _ _) ?_
  ((repeat (first | refine ya (by (with_reducible constructor) <;> first | rfl | decide) ?_ | apply yb | refine yc rfl ?_ | ((first | apply yd | apply ye); simp (disch := first | exact yn | omega | (simp only [go_sem]; done) | (simp only [ln, ym]; omega) | (repeat' first | assumption | exact yo _ | refine yp ?_ _)) only [go_sem]; with_reducible rfl))))
  exact fin_1 ⟨rfl, rfl⟩
theorem checkFilter1_c : Asks (.func (.func 114) #[] #[]) (fun n => !decide (-1000 ≤ n ∧ n ≤ 1000)) := fun n H => by
  show ACall _ _ _ _ _
  (refine a114 ?_; simp only [n114, List.replicate, yq, yr, yt, yu]; first | refine q1 ?_ | refine q2 ?_ | refine q6 ?_ | refine q7 ?_ | refine qh rfl ?_ | skip)
  ((repeat (first | refine ya (by (with_reducible constructor) <;> first | rfl | decide) ?_ | apply yb | refine yc rfl ?_ | ((first | apply yd | apply ye); simp (disch := first | exact yn | omega | (simp only [go_sem]; done) | (simp only [ln, ym]; omega) | (repeat' first | assumption | exact yo _ | refine yp ?_ _)) only [go_sem]; with_reducible rfl))))
  refine aops_call_to (isWeight_c _) ?_
  ((repeat (first | refine ya (by (with_reducible constructor) <;> first | rfl | decide) ?_ | apply yb | refine yc rfl ?_ | ((first | apply yd | apply ye); simp (disch := first | exact yn | omega | (simp only [go_sem]; done) | (simp only [ln, ym]; omega) | (repeat' first | assumption | exact yo _ | refine yp ?_ _)) only [go_sem]; with_reducible rfl))))
  exact fin_1 ⟨rfl, rfl⟩
theorem signalErr1_c : Asks (.func (.func 131) #[] #[]) (fun n => !decide (-32767 ≤ n ∧ n ≤ 32767)) := fun n H => by
  show ACall _ _ _ _ _
  (refine a131 ?_; simp only [n131, List.replicate, yq, yr, yt, yu]; first | refine q1 ?_ | refine q2 ?_ | refine q6 ?_ | refine q7 ?_ | refine qh rfl ?_ | skip)
  ((repeat (first | refine ya (by (with_reducible constructor) <;> first | rfl | decide) ?_ | apply yb | refine yc rfl ?_ | ((first | apply yd | apply ye); simp (disch := first | exact yn | omega | (simp only [go_sem]; done) | (simp only [ln, ym]; omega) | (repeat' first | assumption | exact yo _ | refine yp ?_ _)) only [go_sem]; with_reducible rfl))))
  refine aops_call_to (isSized_c _ _ (by omega)) ?_
  ((repeat (first | refine ya (by (with_reducible constructor) <;> first | rfl | decide) ?_ | apply yb | refine yc rfl ?_ | ((first | apply yd | apply ye); simp (disch := first | exact yn | omega | (simp only [go_sem]; done) | (simp only [ln, ym]; omega) | (repeat' first | assumption | exact yo _ | refine yp ?_ _)) only [go_sem]; with_reducible rfl))))
  exact fin_1 ⟨rfl, rfl⟩
theorem signalErr_c {x : List Int} {v : Value} (hx : Ints H x v) (hb : x.length ≤ 1000000000) : ACall Go.Proofs.Tryd.prog 89 [v] H fun v H' => v = .int .i64 (signalErrL x) ∧ H' = H := by
  refine ACall.drop (.int _ _) ?_
  (refine a89 ?_; simp only [n89, List.replicate, yq, yr, yt, yu]; first | refine q1 ?_ | refine q2 ?_ | refine q6 ?_ | refine q7 ?_ | refine qh rfl ?_ | skip)
  ((repeat (first | refine ya (by (with_reducible constructor) <;> first | rfl | decide) ?_ | apply yb | refine yc rfl ?_ | ((first | apply yd | apply ye); simp (disch := first | exact yn | omega | (simp only [go_sem]; done) | (simp only [ln, ym]; omega) | (repeat' first | assumption | exact yo _ | refine yp ?_ _)) only [go_sem]; with_reducible rfl))))
  refine aops_call_to (containsFunc_c hx signalErr1_c hb) ?_
  rw [any_not]
  ((repeat (first | refine ya (by (with_reducible constructor) <;> first | rfl | decide) ?_ | apply yb | refine yc rfl ?_ | ((first | apply yd | apply ye); simp (disch := first | exact yn | omega | (simp only [go_sem]; done) | (simp only [ln, ym]; omega) | (repeat' first | assumption | exact yo _ | refine yp ?_ _)) only [go_sem, hx.len, hx.idx, hx.load]; with_reducible rfl))))
  refine aops_call_to (unless_c _ _) ?_
  ((repeat (first | refine ya (by (with_reducible constructor) <;> first | rfl | decide) ?_ | apply yb | refine yc rfl ?_ | ((first | apply yd | apply ye); simp (disch := first | exact yn | omega | (simp only [go_sem]; done) | (simp only [ln, ym]; omega) | (repeat' first | assumption | exact yo _ | refine yp ?_ _)) only [go_sem]; with_reducible rfl))))
  refine aops_call_to (unless_c _ _) ?_
  ((repeat (first | refine ya (by (with_reducible constructor) <;> first | rfl | decide) ?_ | apply yb | refine yc rfl ?_ | ((first | apply yd | apply ye); simp (disch := first | exact yn | omega | (simp only [go_sem]; done) | (simp only [ln, ym]; omega) | (repeat' first | assumption | exact yo _ | refine yp ?_ _)) only [go_sem]; with_reducible rfl))))
  refine aops_call_to (first_c (l := [_, _]) (Ints.last (l := [_, _]) 2) (by simp)) ?_
  ((repeat (first | refine ya (by (with_reducible constructor) <;> first | rfl | decide) ?_ | apply yb | refine yc rfl ?_ | ((first | apply yd | apply ye); simp (disch := first | exact yn | omega | (simp only [go_sem]; done) | (simp only [ln, ym]; omega) | (repeat' first | assumption | exact yo _ | refine yp ?_ _)) only [go_sem]; with_reducible rfl))))
  refine fin_1 ⟨?_, (Ext.refl _).app _⟩
  unfold signalErrL
  by_cases h1 : 400 < x.length
  · have : ¬ (x.length : Int) ≤ 400 := by omega
    simp [firstErr, h1, this]
  · have : (x.length : Int) ≤ 400 := by omega
    cases hq : x.all (fun n => decide (-32767 ≤ n ∧ n ≤ 32767)) <;> simp [firstErr, h1, this]
theorem refSignalErr_c {x : List Int} {v : Value} (hx : Ints H x v) (hb : x.length ≤ 1000000000) : ACall Go.Proofs.Tryd.prog 28 [v] H fun v H' => v = .int .i64 (signalErrL x) ∧ H' = H := by
  (refine a28 ?_; simp only [n28, List.replicate, yq, yr, yt, yu]; first | refine q1 ?_ | refine q2 ?_ | refine q6 ?_ | refine q7 ?_ | refine qh rfl ?_ | skip)
  ((repeat (first | refine ya (by (with_reducible constructor) <;> first | rfl | decide) ?_ | apply yb | refine yc rfl ?_ | ((first | apply yd | apply ye); simp (disch := first | exact yn | omega | (simp only [go_sem]; done) | (simp only [ln, ym]; omega) | (repeat' first | assumption | exact yo _ | refine yp ?_ _)) only [go_sem, hx.len, hx.idx, hx.load]; with_reducible rfl))))
  refine cond_p rfl (fun hlt => ?_) (fun hge => ?_)
  · ((repeat (first | refine ya (by (with_reducible constructor) <;> first | rfl | decide) ?_ | apply yb | refine yc rfl ?_ | ((first | apply yd | apply ye); simp (disch := first | exact yn | omega | (simp only [go_sem]; done) | (simp only [ln, ym]; omega) | (repeat' first | assumption | exact yo _ | refine yp ?_ _)) only [go_sem]; with_reducible rfl))))
    refine fin_1 ⟨?_, rfl⟩
    unfold signalErrL
    rw [if_pos (by omega)]; rfl
  · ((repeat (first | refine ya (by (with_reducible constructor) <;> first | rfl | decide) ?_ | apply yb | refine yc rfl ?_ | ((first | apply yd | apply ye); simp (disch := first | exact yn | omega | (simp only [go_sem]; done) | (simp only [ln, ym]; omega) | (repeat' first | assumption | exact yo _ | refine yp ?_ _)) only [go_sem]; with_reducible rfl))))
    refine awp_loop_n [true, false, false, true, false, false, false, false, false, false, false, false, false, false, false, false, false, false, false] x.length (fun i e H' => H' = H ∧ e = [v, junk, junk, .int .i64 i, junk, junk, junk, junk, junk, junk, junk, junk, junk, junk, junk, junk, junk, junk, junk] ∧ ∀ j < i, decide (-32767 ≤ x.getD j 0 ∧ x.getD j 0 ≤ 32767) = true) ?_ ?_
    · exact ⟨rfl, rfl, by omega⟩
    · rintro i e H' hi ⟨rfl, rfl, hp⟩
      ((repeat (first | refine ya (by (with_reducible constructor) <;> first | rfl | decide) ?_ | apply yb | refine yc rfl ?_ | ((first | apply yd | apply ye); simp (disch := first | exact yn | omega | (simp only [go_sem]; done) | (simp only [ln, ym]; omega) | (repeat' first | assumption | exact yo _ | refine yp ?_ _)) only [go_sem, hx.len, hx.idx, hx.load]; with_reducible rfl))))
      refine cond_p rfl (fun hlt => ?_) (fun hge => ?_)
      · ((repeat (first | refine ya (by (with_reducible constructor) <;> first | rfl | decide) ?_ | apply yb | refine yc rfl ?_ | ((first | apply yd | apply ye); simp (disch := first | exact yn | omega | (simp only [go_sem]; done) | (simp only [ln, ym]; omega) | (repeat' first | assumption | exact yo _ | refine yp ?_ _)) only [go_sem, hx.len, hx.idx, hx.load]; with_reducible rfl))))
        refine aops_call_to (bwithin_c _ _ _) ?_
        ((repeat (first | refine ya (by (with_reducible constructor) <;> first | rfl | decide) ?_ | apply yb | refine yc rfl ?_ | ((first | apply yd | apply ye); simp (disch := first | exact yn | omega | (simp only [go_sem]; done) | (simp only [ln, ym]; omega) | (repeat' first | assumption | exact yo _ | refine yp ?_ _)) only [go_sem]; with_reducible rfl))))
        refine cond_n rfl (fun hne => ?_) (fun heq => ?_)
        · ((repeat (first | refine ya (by (with_reducible constructor) <;> first | rfl | decide) ?_ | apply yb | refine yc rfl ?_ | ((first | apply yd | apply ye); simp (disch := first | exact yn | omega | (simp only [go_sem]; done) | (simp only [ln, ym]; omega) | (repeat' first | assumption | exact yo _ | refine yp ?_ _)) only [go_sem]; with_reducible rfl))))
          refine fin_1 ⟨?_, rfl⟩
          have : x.all (fun n => decide (-32767 ≤ n ∧ n ≤ 32767)) = false := all_false (d := 0) (i := i) (by omega) (by simpa using hne)
          unfold signalErrL
          rw [if_neg (by omega), this]; rfl
        · ((repeat (first | refine ya (by (with_reducible constructor) <;> first | rfl | decide) ?_ | apply yb | refine yc rfl ?_ | ((first | apply yd | apply ye); simp (disch := first | exact yn | omega | (simp only [go_sem]; done) | (simp only [ln, ym]; omega) | (repeat' first | assumption | exact yo _ | refine yp ?_ _)) only [go_sem]; with_reducible rfl))))
          refine ⟨by omega, rfl, by simp [forget], fun j hj => ?_⟩
          by_cases h : j = i
          · subst h; exact decide_eq_true heq
          · exact hp j (by omega)
      · ((repeat (first | refine ya (by (with_reducible constructor) <;> first | rfl | decide) ?_ | apply yb | refine yc rfl ?_ | ((first | apply yd | apply ye); simp (disch := first | exact yn | omega | (simp only [go_sem]; done) | (simp only [ln, ym]; omega) | (repeat' first | assumption | exact yo _ | refine yp ?_ _)) only [go_sem]; with_reducible rfl))))
        refine fin_1 ⟨?_, rfl⟩
        have : x.all (fun n => decide (-32767 ≤ n ∧ n ≤ 32767)) = true := all_true (d := 0) fun j hj => hp j (by omega)
        unfold signalErrL
        rw [if_neg (by omega), this]; rfl
theorem copyFilter_c {c : List Int} {v : Value} {d : Int} (hc : Ints H c v) (hb : c.length ≤ 1000000000) : ACall Go.Proofs.Tryd.prog 57 [.agg ⟨[v, .int .i64 d]⟩] H fun w H' =>
    w = .agg ⟨[.slice (some ⟨H.length, 0, none⟩) c.length c.length, .int .i64 d]⟩ ∧ H' = H ++ [.cells true 1 (c.map (.int .i64))] := by
  refine ACall.tidyE (f := fun s => .agg ⟨[s, .int .i64 d]⟩) (sz := 1) (n := c.length) (vs := c.map (.int .i64)) (wraps_agg2 (.int _ _)) (closed_ints c) ?_
  (refine a57 ?_; simp only [n57, List.replicate, yq, yr, yt, yu]; first | refine Go.Lq.q1 ?_ | refine Go.Lq.q2 ?_ | refine Go.Lq.q6 ?_ | refine Go.Lq.q7 ?_ | refine Go.Lq.qh rfl ?_ | skip)
  obtain ⟨G, hG⟩ : ∃ G, G = H ++ [AObj.cells true 0 [v, .int .i64 d]] ++ [AObj.cells true 0 [.slice none 0 0, .int .i64 0]] := ⟨_, rfl⟩
  have g0 : G[H.length]? = some (.cells true 0 [v, .int .i64 d]) := by rw [hG]; exact at_app at_new
  have g1 : G[H.length + 1]? = some (.cells true 0 [.slice none 0 0, .int .i64 0]) := by rw [hG]; simp
  have xG : Ext H G := by rw [hG]; exact ((Ext.refl H).app _).app _
  have lG : G.length = H.length + 2 := by rw [hG]; simp
  (repeat (first | refine ya (by (with_reducible constructor) <;> first | rfl | decide) ?_ | (apply yd; simp (disch := first | exact yn | omega | (simp only [go_sem]; done) | (simp only [ln, ym]; omega) | (repeat' first | assumption | exact yo _ | refine yp ?_ _)) only [go_sem, hc.box2]; with_reducible rfl)))
  (simp only [List.length_append, List.length_cons, List.length_nil, Nat.zero_add, Nat.add_assoc, Nat.reduceAdd])
  rw [← hG]
  clear hG
  ((repeat (first | refine ya (by (with_reducible constructor) <;> first | rfl | decide) ?_ | apply yb | refine yc rfl ?_ | ((first | apply yd | apply ye); simp (disch := first | exact yn | omega | (simp only [go_sem]; done) | (simp only [ln, ym]; omega) | (repeat' first | assumption | exact yo _ | refine yp ?_ _)) only [go_sem, load_at g0]; with_reducible rfl))))
  refine adraw_call (copyInts_c (hc.ext xG) hb) ?_
  have q0 := at_app (N := [AObj.cells true 1 (c.map (.int .i64))]) g0
  have q1 := at_app (N := [AObj.cells true 1 (c.map (.int .i64))]) g1
  have q2 : (G ++ [AObj.cells true 1 (c.map (.int .i64))])[G.length]? = some (.cells true 1 (c.map (.int .i64))) := at_new
  have x2 : Ext H (G ++ [AObj.cells true 1 (c.map (.int .i64))]) := xG.app _
  generalize (G ++ [AObj.cells true 1 (c.map (.int .i64))] : AHeap) = G2 at q0 q1 q2 x2
  ((repeat (first | refine ya (by (with_reducible constructor) <;> first | rfl | decide) ?_ | apply yb | refine yc rfl ?_ | ((first | apply yd | apply ye); simp (disch := first | exact yn | omega | (simp only [go_sem]; done) | (simp only [ln, ym]; omega) | (repeat' first | assumption | exact yo _ | refine yp ?_ _)) only [go_sem, load_at q0, fill2v (isAtom_slice _ _ _), store_at2v (a := .slice (some ⟨G.length, 0, none⟩) c.length c.length) (b := .int .i64 d) q1 rfl rfl]; with_reducible rfl))))
  refine fin_l1 (u := .agg ⟨[.slice (some ⟨G.length, 0, none⟩) c.length c.length, .int .i64 d]⟩) ?_ ?_
  · exact loadN_at (k := 0) (get_set_self q1) (by simp)
  · exact ⟨_, G.length, rfl, x2.set (by omega) _, rfl, by omega, by rw [List.getElem?_set_ne (by omega)]; exact q2⟩
end
end Go.Lq

namespace Go.Lq
open Go
open Go.Proofs

def nilR (v : Value) (H : AHeap) : Option (Value × AHeap) := match v with | .pointer (some a) => some (.pointer (some a), H) | .func (.func f) xs ys => some (.func (.func f) xs ys, H) | _ => none
theorem r_nilCheck {ρ : Operand → Value} {H : AHeap} {x : Operand} : ropRun (.nilCheck x) ρ H = nilR (ρ x) H := rfl
theorem nil_ptr {a : Addr} {H : AHeap} : nilR (.pointer (some a)) H = some (.pointer (some a), H) := rfl
attribute [go_sem] r_nilCheck nil_ptr

theorem box_5 {a b c d e : Int} {H : AHeap} : boxR (.agg ⟨[.int .i64 a, .int .i64 b, .int .i64 c, .int .i64 d, .int .i64 e]⟩) H = some (.pointer (some ⟨H.length, 0, none⟩), H ++ [.cells true 0 [.int .i64 a, .int .i64 b, .int .i64 c, .int .i64 d, .int .i64 e]]) := box_agg rfl
theorem fill_35 {a b c : Int} : fillA [.int .i64 0, .int .i64 0, .int .i64 0, .int .i64 0, .int .i64 0] [(0, 3, .agg ⟨[.int .i64 a, .int .i64 b, .int .i64 c]⟩)] = some [.int .i64 a, .int .i64 b, .int .i64 c, .int .i64 0, .int .i64 0] := rfl
theorem n3_at {G : AHeap} {id : Nat} {a b c : Value} (h : G[id]? = some (.cells true 0 [a, b, c])) : loadNR 3 (.pointer (some ⟨id, 0, none⟩)) G = some (.agg ⟨[a, b, c]⟩, G) := loadN_at h (by simp)
theorem store_cell1 {H : AHeap} {id e k : Nat} {vs : List Value} {n : Int} (h : H[id]? = some (.cells true e vs)) (hk : k < vs.length) : storeR 1 (.pointer (some ⟨id, k, none⟩)) (.int .i64 n) H = some (undef, H.set id (.cells true e (vs.set k (.int .i64 n)))) := by
  have e1 : (Value.int .i64 n).cells = ⟨[.int .i64 n]⟩ := rfl
  simp only [storeR, e1, List.size_toArray, storeAt, h, List.length_cons, List.length_nil]
  rw [setCells_one _ _ _ hk]
  simp [isAtom_int]
  omega

def eqErrL (f s d : Int) : Int := if (-1000 ≤ f ∧ f ≤ 1000) ∧ (-1000 ≤ s ∧ s ≤ 1000) ∧ (1 ≤ d ∧ d ≤ 1000) then 0 else 2
theorem eqErr_ok {f s d : Int} (h : eqErrL f s d = 0) : (-1000 ≤ f ∧ f ≤ 1000) ∧ (-1000 ≤ s ∧ s ≤ 1000) ∧ (1 ≤ d ∧ d ≤ 1000) := by
  unfold eqErrL at h
  split at h
  · rename_i h1; exact h1
  · cases h
def eqRes : Option (List Int) → List Int × Int
  | some y => (y, 0)
  | none => ([], 23)
def equalizedL (f s d : Int) (x : List Int) : List Int × Int :=
  if eqErrL f s d = 0 then (if signalErrL x = 0 then eqRes (eqGo f s d 0 0 x) else ([], signalErrL x)) else ([], eqErrL f s d)
def outErrL (y : List Int) : Int := if 400 < y.length then 8 else if y.all (fun n => decide (-1000000000000000 ≤ n ∧ n ≤ 1000000000000000)) = true then 0 else 2
theorem outErr_ok {x : List Int} (h : outErrL x = 0) : x.length ≤ 400 ∧ ∀ i : Nat, -1000000000000000 ≤ x.getD i 0 ∧ x.getD i 0 ≤ 1000000000000000 := by
  unfold outErrL at h
  split at h
  · cases h
  · split at h
    · rename_i h1 h2; exact ⟨by omega, all_sized (by decide) h2⟩
    · cases h
def restoredL (f s d : Int) (y : List Int) : List Int × Int :=
  if eqErrL f s d = 0 then (if outErrL y = 0 then (unGo f s d 0 0 y, 0) else ([], outErrL y)) else ([], eqErrL f s d)

section
variable {H : AHeap}
theorem checkEqualizer_c (f s d : Int) : ACall Go.Proofs.Tryd.prog 72 [.agg ⟨[.int .i64 f, .int .i64 s, .int .i64 d]⟩] H fun w H' => w = .int .i64 (eqErrL f s d) ∧ H' = H := by
  refine ACall.drop (.int _ _) ?_
  (refine a72 ?_; simp only [n72, List.replicate, yq, yr, yt, yu]; first | refine q1 ?_ | refine q2 ?_ | refine q6 ?_ | refine q7 ?_ | refine qh rfl ?_ | skip)
  have g0 : (H ++ [AObj.cells true 0 [.int .i64 f, .int .i64 s, .int .i64 d]])[H.length]? = some (.cells true 0 [.int .i64 f, .int .i64 s, .int .i64 d]) := at_new
  have xG : Ext H (H ++ [AObj.cells true 0 [.int .i64 f, .int .i64 s, .int .i64 d]]) := (Ext.refl H).app _
  ((repeat (first | refine ya (by (with_reducible constructor) <;> first | rfl | decide) ?_ | apply yb | refine yc rfl ?_ | ((first | apply yd | apply ye); simp (disch := first | exact yn | omega | (simp only [go_sem]; done) | (simp only [ln, ym]; omega) | (repeat' first | assumption | exact yo _ | refine yp ?_ _)) only [go_sem, box_3, load_at g0]; with_reducible rfl))))
  generalize (H ++ [AObj.cells true 0 [.int .i64 f, .int .i64 s, .int .i64 d]] : AHeap) = G at g0 xG
  refine aops_call_to (isWeight_c _) ?_
  by_cases h1 : -1000 ≤ f ∧ f ≤ 1000
  rotate_left 1
  · ((repeat (first | refine ya (by (with_reducible constructor) <;> first | rfl | decide) ?_ | apply yb | refine yc rfl ?_ | ((first | apply yd | apply ye); simp (disch := first | exact yn | omega | (simp only [go_sem]; done) | (simp only [ln, ym]; omega) | (repeat' first | assumption | exact yo _ | refine yp ?_ _)) only [go_sem, load_at g0, dec_f h1]; with_reducible rfl))))
    refine aops_call_to (unless_c _ _) ?_
    ((repeat (first | refine ya (by (with_reducible constructor) <;> first | rfl | decide) ?_ | apply yb | refine yc rfl ?_ | ((first | apply yd | apply ye); simp (disch := first | exact yn | omega | (simp only [go_sem]; done) | (simp only [ln, ym]; omega) | (repeat' first | assumption | exact yo _ | refine yp ?_ _)) only [go_sem]; with_reducible rfl))))
    exact fin_1 ⟨by unfold eqErrL; rw [if_neg (fun h => h1 h.1)]; rfl, xG⟩
  ((repeat (first | refine ya (by (with_reducible constructor) <;> first | rfl | decide) ?_ | apply yb | refine yc rfl ?_ | ((first | apply yd | apply ye); simp (disch := first | exact yn | omega | (simp only [go_sem]; done) | (simp only [ln, ym]; omega) | (repeat' first | assumption | exact yo _ | refine yp ?_ _)) only [go_sem, load_at g0, dec_t h1]; with_reducible rfl))))
  refine aops_call_to (isWeight_c _) ?_
  by_cases h2 : -1000 ≤ s ∧ s ≤ 1000
  rotate_left 1
  · ((repeat (first | refine ya (by (with_reducible constructor) <;> first | rfl | decide) ?_ | apply yb | refine yc rfl ?_ | ((first | apply yd | apply ye); simp (disch := first | exact yn | omega | (simp only [go_sem]; done) | (simp only [ln, ym]; omega) | (repeat' first | assumption | exact yo _ | refine yp ?_ _)) only [go_sem, load_at g0, dec_f h2]; with_reducible rfl))))
    refine aops_call_to (unless_c _ _) ?_
    ((repeat (first | refine ya (by (with_reducible constructor) <;> first | rfl | decide) ?_ | apply yb | refine yc rfl ?_ | ((first | apply yd | apply ye); simp (disch := first | exact yn | omega | (simp only [go_sem]; done) | (simp only [ln, ym]; omega) | (repeat' first | assumption | exact yo _ | refine yp ?_ _)) only [go_sem]; with_reducible rfl))))
    exact fin_1 ⟨by unfold eqErrL; rw [if_neg (fun h => h2 h.2.1)]; rfl, xG⟩
  ((repeat (first | refine ya (by (with_reducible constructor) <;> first | rfl | decide) ?_ | apply yb | refine yc rfl ?_ | ((first | apply yd | apply ye); simp (disch := first | exact yn | omega | (simp only [go_sem]; done) | (simp only [ln, ym]; omega) | (repeat' first | assumption | exact yo _ | refine yp ?_ _)) only [go_sem, load_at g0, dec_t h2]; with_reducible rfl))))
  refine aops_call_to (isDen_c _) ?_
  ((repeat (first | refine ya (by (with_reducible constructor) <;> first | rfl | decide) ?_ | apply yb | refine yc rfl ?_ | ((first | apply yd | apply ye); simp (disch := first | exact yn | omega | (simp only [go_sem]; done) | (simp only [ln, ym]; omega) | (repeat' first | assumption | exact yo _ | refine yp ?_ _)) only [go_sem]; with_reducible rfl))))
  refine aops_call_to (unless_c _ _) ?_
  by_cases h3 : 1 ≤ d ∧ d ≤ 1000
  · ((repeat (first | refine ya (by (with_reducible constructor) <;> first | rfl | decide) ?_ | apply yb | refine yc rfl ?_ | ((first | apply yd | apply ye); simp (disch := first | exact yn | omega | (simp only [go_sem]; done) | (simp only [ln, ym]; omega) | (repeat' first | assumption | exact yo _ | refine yp ?_ _)) only [go_sem, dec_t h3]; with_reducible rfl))))
    exact fin_1 ⟨by unfold eqErrL; rw [if_pos ⟨h1, h2, h3⟩]; rfl, xG⟩
  · ((repeat (first | refine ya (by (with_reducible constructor) <;> first | rfl | decide) ?_ | apply yb | refine yc rfl ?_ | ((first | apply yd | apply ye); simp (disch := first | exact yn | omega | (simp only [go_sem]; done) | (simp only [ln, ym]; omega) | (repeat' first | assumption | exact yo _ | refine yp ?_ _)) only [go_sem, dec_f h3]; with_reducible rfl))))
    exact fin_1 ⟨by unfold eqErrL; rw [if_neg (fun h => h3 h.2.2)]; rfl, xG⟩
theorem refEqErr_c (f s d : Int) : ACall Go.Proofs.Tryd.prog 43 [.agg ⟨[.int .i64 f, .int .i64 s, .int .i64 d]⟩] H fun w H' => w = .int .i64 (eqErrL f s d) ∧ H' = H := by
  refine ACall.drop (.int _ _) ?_
  (refine a43 ?_; simp only [n43, List.replicate, yq, yr, yt, yu]; first | refine q1 ?_ | refine q2 ?_ | refine q6 ?_ | refine q7 ?_ | refine qh rfl ?_ | skip)
  have g0 : (H ++ [AObj.cells true 0 [.int .i64 f, .int .i64 s, .int .i64 d]])[H.length]? = some (.cells true 0 [.int .i64 f, .int .i64 s, .int .i64 d]) := at_new
  have xG : Ext H (H ++ [AObj.cells true 0 [.int .i64 f, .int .i64 s, .int .i64 d]]) := (Ext.refl H).app _
  ((repeat (first | refine ya (by (with_reducible constructor) <;> first | rfl | decide) ?_ | apply yb | refine yc rfl ?_ | ((first | apply yd | apply ye); simp (disch := first | exact yn | omega | (simp only [go_sem]; done) | (simp only [ln, ym]; omega) | (repeat' first | assumption | exact yo _ | refine yp ?_ _)) only [go_sem, box_3, load_at g0]; with_reducible rfl))))
  generalize (H ++ [AObj.cells true 0 [.int .i64 f, .int .i64 s, .int .i64 d]] : AHeap) = G at g0 xG
  refine aops_call_to (bwithin_c _ _ _) ?_
  by_cases h1 : -1000 ≤ f ∧ f ≤ 1000
  rotate_left 1
  · ((repeat (first | refine ya (by (with_reducible constructor) <;> first | rfl | decide) ?_ | apply yb | refine yc rfl ?_ | ((first | apply yd | apply ye); simp (disch := first | exact yn | omega | (simp only [go_sem]; done) | (simp only [ln, ym]; omega) | (repeat' first | assumption | exact yo _ | refine yp ?_ _)) only [go_sem, load_at g0, dec_f h1]; with_reducible rfl))))
    refine cond_t rfl ?_
    ((repeat (first | refine ya (by (with_reducible constructor) <;> first | rfl | decide) ?_ | apply yb | refine yc rfl ?_ | ((first | apply yd | apply ye); simp (disch := first | exact yn | omega | (simp only [go_sem]; done) | (simp only [ln, ym]; omega) | (repeat' first | assumption | exact yo _ | refine yp ?_ _)) only [go_sem]; with_reducible rfl))))
    exact fin_1 ⟨by unfold eqErrL; rw [if_neg (fun h => h1 h.1)]; rfl, xG⟩
  ((repeat (first | refine ya (by (with_reducible constructor) <;> first | rfl | decide) ?_ | apply yb | refine yc rfl ?_ | ((first | apply yd | apply ye); simp (disch := first | exact yn | omega | (simp only [go_sem]; done) | (simp only [ln, ym]; omega) | (repeat' first | assumption | exact yo _ | refine yp ?_ _)) only [go_sem, load_at g0, dec_t h1]; with_reducible rfl))))
  refine aops_call_to (bwithin_c _ _ _) ?_
  by_cases h2 : -1000 ≤ s ∧ s ≤ 1000
  rotate_left 1
  · ((repeat (first | refine ya (by (with_reducible constructor) <;> first | rfl | decide) ?_ | apply yb | refine yc rfl ?_ | ((first | apply yd | apply ye); simp (disch := first | exact yn | omega | (simp only [go_sem]; done) | (simp only [ln, ym]; omega) | (repeat' first | assumption | exact yo _ | refine yp ?_ _)) only [go_sem, load_at g0, dec_f h2]; with_reducible rfl))))
    refine cond_t rfl ?_
    ((repeat (first | refine ya (by (with_reducible constructor) <;> first | rfl | decide) ?_ | apply yb | refine yc rfl ?_ | ((first | apply yd | apply ye); simp (disch := first | exact yn | omega | (simp only [go_sem]; done) | (simp only [ln, ym]; omega) | (repeat' first | assumption | exact yo _ | refine yp ?_ _)) only [go_sem]; with_reducible rfl))))
    exact fin_1 ⟨by unfold eqErrL; rw [if_neg (fun h => h2 h.2.1)]; rfl, xG⟩
  ((repeat (first | refine ya (by (with_reducible constructor) <;> first | rfl | decide) ?_ | apply yb | refine yc rfl ?_ | ((first | apply yd | apply ye); simp (disch := first | exact yn | omega | (simp only [go_sem]; done) | (simp only [ln, ym]; omega) | (repeat' first | assumption | exact yo _ | refine yp ?_ _)) only [go_sem, load_at g0, dec_t h2]; with_reducible rfl))))
  refine aops_call_to (bwithin_c _ _ _) ?_
  by_cases h3 : 1 ≤ d ∧ d ≤ 1000
  · ((repeat (first | refine ya (by (with_reducible constructor) <;> first | rfl | decide) ?_ | apply yb | refine yc rfl ?_ | ((first | apply yd | apply ye); simp (disch := first | exact yn | omega | (simp only [go_sem]; done) | (simp only [ln, ym]; omega) | (repeat' first | assumption | exact yo _ | refine yp ?_ _)) only [go_sem, dec_t h3]; with_reducible rfl))))
    refine cond_f rfl ?_
    ((repeat (first | refine ya (by (with_reducible constructor) <;> first | rfl | decide) ?_ | apply yb | refine yc rfl ?_ | ((first | apply yd | apply ye); simp (disch := first | exact yn | omega | (simp only [go_sem]; done) | (simp only [ln, ym]; omega) | (repeat' first | assumption | exact yo _ | refine yp ?_ _)) only [go_sem]; with_reducible rfl))))
    exact fin_1 ⟨by unfold eqErrL; rw [if_pos ⟨h1, h2, h3⟩]; rfl, xG⟩
  · ((repeat (first | refine ya (by (with_reducible constructor) <;> first | rfl | decide) ?_ | apply yb | refine yc rfl ?_ | ((first | apply yd | apply ye); simp (disch := first | exact yn | omega | (simp only [go_sem]; done) | (simp only [ln, ym]; omega) | (repeat' first | assumption | exact yo _ | refine yp ?_ _)) only [go_sem, dec_f h3]; with_reducible rfl))))
    refine cond_t rfl ?_
    ((repeat (first | refine ya (by (with_reducible constructor) <;> first | rfl | decide) ?_ | apply yb | refine yc rfl ?_ | ((first | apply yd | apply ye); simp (disch := first | exact yn | omega | (simp only [go_sem]; done) | (simp only [ln, ym]; omega) | (repeat' first | assumption | exact yo _ | refine yp ?_ _)) only [go_sem]; with_reducible rfl))))
    exact fin_1 ⟨by unfold eqErrL; rw [if_neg (fun h => h3 h.2.2)]; rfl, xG⟩

theorem prod_bound {f s a b : Int} (hf : -1000 ≤ f ∧ f ≤ 1000) (hs : -1000 ≤ s ∧ s ≤ 1000) (ha : -1000000000000000 ≤ a ∧ a ≤ 1000000000000000) (hb : -1000000000000000 ≤ b ∧ b ≤ 1000000000000000) :
    (-1000000000000000000 ≤ f * a ∧ f * a ≤ 1000000000000000000) ∧ (-1000000000000000000 ≤ s * b ∧ s * b ≤ 1000000000000000000) := by
  have h1 := mul_abs (x := f) (y := a) (a := 1000) (b := 1000000000000000) (by omega) (by omega)
  have h2 := mul_abs (x := s) (y := b) (a := 1000) (b := 1000000000000000) (by omega) (by omega)
  omega
theorem added_bound {f s d a b : Int} (he : eqErrL f s d = 0) (ha : -1000000000000000 ≤ a ∧ a ≤ 1000000000000000) (hb : -1000000000000000 ≤ b ∧ b ≤ 1000000000000000) : -2000000000000000000 ≤ addedI f s d a b ∧ addedI f s d a b ≤ 2000000000000000000 := by
  obtain ⟨h1, h2, h3⟩ := eqErr_ok he
  obtain ⟨p1, p2⟩ := prod_bound h1 h2 ha hb
  have := ediv_bound (n := f * a + s * b) (b := d) (m := 2000000000000000000) (by omega) (by omega)
  unfold addedI
  omega
theorem added_c {f s d a b : Int} {id : Nat} (hm : H[id]? = some (.cells true 0 [.int .i64 f, .int .i64 s, .int .i64 d, .int .i64 a, .int .i64 b])) (he : eqErrL f s d = 0) (ha : -1000000000000000 ≤ a ∧ a ≤ 1000000000000000) (hb : -1000000000000000 ≤ b ∧ b ≤ 1000000000000000) :
    ACall Go.Proofs.Tryd.prog 117 [.pointer (some ⟨id, 0, none⟩)] H fun w H' => w = .int .i64 (addedI f s d a b) ∧ H' = H := by
  obtain ⟨h1, h2, h3⟩ := eqErr_ok he
  obtain ⟨p1, p2⟩ := prod_bound h1 h2 ha hb
  (refine a117 ?_; simp only [n117, List.replicate, yq, yr, yt, yu]; first | refine q1 ?_ | refine q2 ?_ | refine q6 ?_ | refine q7 ?_ | refine qh rfl ?_ | skip)
  ((repeat (first | refine ya (by (with_reducible constructor) <;> first | rfl | decide) ?_ | apply yb | refine yc rfl ?_ | ((first | apply yd | apply ye); simp (disch := first | exact yn | omega | (simp only [go_sem]; done) | (simp only [ln, ym]; omega) | (repeat' first | assumption | exact yo _ | refine yp ?_ _)) only [go_sem, load_at hm]; with_reducible rfl))))
  refine adraw_call (N := []) (firstD (rfloor_c _ _ (by omega) (by omega))) ?_
  rw [List.append_nil]
  ((repeat (first | refine ya (by (with_reducible constructor) <;> first | rfl | decide) ?_ | apply yb | refine yc rfl ?_ | ((first | apply yd | apply ye); simp (disch := first | exact yn | omega | (simp only [go_sem]; done) | (simp only [ln, ym]; omega) | (repeat' first | assumption | exact yo _ | refine yp ?_ _)) only [go_sem]; with_reducible rfl))))
  exact fin_1 ⟨rfl, rfl⟩
theorem push_c {f s d a b y : Int} {id : Nat} (hm : H[id]? = some (.cells true 0 [.int .i64 f, .int .i64 s, .int .i64 d, .int .i64 a, .int .i64 b])) :
    ACall Go.Proofs.Tryd.prog 119 [.pointer (some ⟨id, 0, none⟩), .int .i64 y] H fun _ H' => H' = H.set id (.cells true 0 [.int .i64 f, .int .i64 s, .int .i64 d, .int .i64 y, .int .i64 a]) := by
  (refine a119 ?_; simp only [n119, List.replicate, yq, yr, yt, yu]; first | refine q1 ?_ | refine q2 ?_ | refine q6 ?_ | refine q7 ?_ | refine qh rfl ?_ | skip)
  have s1 := store_cell1 (k := 3) (n := y) hm (by simp)
  have m2 := get_set_self (d := AObj.cells true 0 [.int .i64 f, .int .i64 s, .int .i64 d, .int .i64 y, .int .i64 b]) hm
  have s2 := store_cell1 (k := 4) (n := a) m2 (by simp)
  simp only [List.set_cons_succ, List.set_cons_zero, set_set] at s1 s2
  ((repeat (first | refine ya (by (with_reducible constructor) <;> first | rfl | decide) ?_ | apply yb | refine yc rfl ?_ | ((first | apply yd | apply ye); simp (disch := first | exact yn | omega | (simp only [go_sem]; done) | (simp only [ln, ym]; omega) | (repeat' first | assumption | exact yo _ | refine yp ?_ _)) only [go_sem, load_at hm, s1, s2]; with_reducible rfl))))
  exact ⟨.inl rfl, _, rfl, rfl⟩
end
end Go.Lq

namespace Go.Lq
open Go
open Go.Proofs

theorem eqGo_cons {f s d a b x : Int} {t : List Int} : eqGo f s d a b (x :: t) = if -1000000000000000 ≤ x + addedI f s d a b ∧ x + addedI f s d a b ≤ 1000000000000000 then (eqGo f s d (x + addedI f s d a b) a t).map (fun r => (x + addedI f s d a b) :: r) else none := rfl
theorem map_map_app {o : Option (List Int)} {out : List Int} {y : Int} : (o.map (fun r => y :: r)).map (fun r => out ++ r) = o.map (fun r => (out ++ [y]) ++ r) := by cases o <;> simp

section
variable {H : AHeap}
set_option maxHeartbeats 1000000 in
theorem equalized_c {f s d : Int} {x : List Int} {w : Value} (hx : Ints H x w) (hxb : x.length ≤ 1000000000) :
    ACall Go.Proofs.Tryd.prog 61 [.agg ⟨[.int .i64 f, .int .i64 s, .int .i64 d]⟩, w] H (IntsRes H (equalizedL f s d x).1 (equalizedL f s d x).2) := by
  refine ACall.intsE ?_
  (refine a61 ?_; simp only [n61, List.replicate, yq, yr, yt, yu]; first | refine q1 ?_ | refine q2 ?_ | refine q6 ?_ | refine q7 ?_ | refine qh rfl ?_ | skip)
  have g0 : (H ++ [AObj.cells true 0 [.int .i64 f, .int .i64 s, .int .i64 d]])[H.length]? = some (.cells true 0 [.int .i64 f, .int .i64 s, .int .i64 d]) := at_new
  have xG : Ext H (H ++ [AObj.cells true 0 [.int .i64 f, .int .i64 s, .int .i64 d]]) := (Ext.refl H).app _
  ((repeat (first | refine ya (by (with_reducible constructor) <;> first | rfl | decide) ?_ | apply yb | refine yc rfl ?_ | ((first | apply yd | apply ye); simp (disch := first | exact yn | omega | (simp only [go_sem]; done) | (simp only [ln, ym]; omega) | (repeat' first | assumption | exact yo _ | refine yp ?_ _)) only [go_sem, box_3, n3_at g0]; with_reducible rfl))))
  generalize (H ++ [AObj.cells true 0 [.int .i64 f, .int .i64 s, .int .i64 d]] : AHeap) = G at g0 xG
  refine aops_call_to (checkEqualizer_c f s d) ?_
  ((repeat (first | refine ya (by (with_reducible constructor) <;> first | rfl | decide) ?_ | apply yb | refine yc rfl ?_ | ((first | apply yd | apply ye); simp (disch := first | exact yn | omega | (simp only [go_sem]; done) | (simp only [ln, ym]; omega) | (repeat' first | assumption | exact yo _ | refine yp ?_ _)) only [go_sem]; with_reducible rfl))))
  refine aops_call_to (signalErr_c (hx.ext xG) hxb) ?_
  ((repeat (first | refine ya (by (with_reducible constructor) <;> first | rfl | decide) ?_ | apply yb | refine yc rfl ?_ | ((first | apply yd | apply ye); simp (disch := first | exact yn | omega | (simp only [go_sem]; done) | (simp only [ln, ym]; omega) | (repeat' first | assumption | exact yo _ | refine yp ?_ _)) only [go_sem]; with_reducible rfl))))
  refine aops_call_to (first_c (l := [_, _]) (Ints.last (l := [_, _]) 2) (by simp)) ?_
  ((repeat (first | refine ya (by (with_reducible constructor) <;> first | rfl | decide) ?_ | apply yb | refine yc rfl ?_ | ((first | apply yd | apply ye); simp (disch := first | exact yn | omega | (simp only [go_sem]; done) | (simp only [ln, ym]; omega) | (repeat' first | assumption | exact yo _ | refine yp ?_ _)) only [go_sem]; with_reducible rfl))))
  have x2 : Ext G (G ++ [AObj.cells true 1 [.int .i64 (eqErrL f s d), .int .i64 (signalErrL x)]]) := (Ext.refl G).app _
  generalize (G ++ [AObj.cells true 1 [.int .i64 (eqErrL f s d), .int .i64 (signalErrL x)]] : AHeap) = G2 at x2
  have g2 := x2.cell g0
  have xH2 := xG.trans x2
  by_cases he : eqErrL f s d = 0
  rotate_left 1
  · have e1 : equalizedL f s d x = ([], eqErrL f s d) := by unfold equalizedL; rw [if_neg he]
    have e2 : firstErr [eqErrL f s d, signalErrL x] = eqErrL f s d := firstErr_e he _
    refine cond_t (by simp [go_sem, e2, dec_t (show eqErrL f s d ≠ 0 from he)]) ?_
    rw [e1, e2]
    ((repeat (first | refine ya (by (with_reducible constructor) <;> first | rfl | decide) ?_ | apply yb | refine yc rfl ?_ | ((first | apply yd | apply ye); simp (disch := first | exact yn | omega | (simp only [go_sem]; done) | (simp only [ln, ym]; omega) | (repeat' first | assumption | exact yo _ | refine yp ?_ _)) only [go_sem]; with_reducible rfl))))
    exact fin_2 ⟨_, rfl, xH2, OwnI.nil _ _⟩
  by_cases hs : signalErrL x = 0
  rotate_left 1
  · have e1 : equalizedL f s d x = ([], signalErrL x) := by unfold equalizedL; rw [if_pos he, if_neg hs]
    have e2 : firstErr [eqErrL f s d, signalErrL x] = signalErrL x := by rw [he, firstErr_z, firstErr_e hs]
    refine cond_t (by simp [go_sem, e2, dec_t (show signalErrL x ≠ 0 from hs)]) ?_
    rw [e1, e2]
    ((repeat (first | refine ya (by (with_reducible constructor) <;> first | rfl | decide) ?_ | apply yb | refine yc rfl ?_ | ((first | apply yd | apply ye); simp (disch := first | exact yn | omega | (simp only [go_sem]; done) | (simp only [ln, ym]; omega) | (repeat' first | assumption | exact yo _ | refine yp ?_ _)) only [go_sem]; with_reducible rfl))))
    exact fin_2 ⟨_, rfl, xH2, OwnI.nil _ _⟩
  have e1 : equalizedL f s d x = eqRes (eqGo f s d 0 0 x) := by unfold equalizedL; rw [if_pos he, if_pos hs]
  have e2 : firstErr [eqErrL f s d, signalErrL x] = 0 := by rw [he, firstErr_z, hs, firstErr_z, firstErr_nil]
  rw [e1, e2]
  refine cond_f rfl ?_
  obtain ⟨s1, s2⟩ := signalErr_ok hs
  have hx2 := hx.ext xH2
  ((repeat (first | refine ya (by (with_reducible constructor) <;> first | rfl | decide) ?_ | apply yb | refine yc rfl ?_ | ((first | apply yd | apply ye); simp (disch := first | exact yn | omega | (simp only [go_sem]; done) | (simp only [ln, ym]; omega) | (repeat' first | assumption | exact yo _ | refine yp ?_ _)) only [go_sem, hx2.len, hx2.idx, hx2.load, n3_at g2, fill_35, box_5]; with_reducible rfl))))
  have m3 : (G2 ++ [AObj.cells true 0 [.int .i64 f, .int .i64 s, .int .i64 d, .int .i64 0, .int .i64 0]])[G2.length]? = some (.cells true 0 [.int .i64 f, .int .i64 s, .int .i64 d, .int .i64 0, .int .i64 0]) := at_new
  have x3 : Ext G2 (G2 ++ [AObj.cells true 0 [.int .i64 f, .int .i64 s, .int .i64 d, .int .i64 0, .int .i64 0]]) := (Ext.refl G2).app _
  generalize (G2 ++ [AObj.cells true 0 [.int .i64 f, .int .i64 s, .int .i64 d, .int .i64 0, .int .i64 0]] : AHeap) = G3 at m3 x3
  refine awp_loop_n [false, true, false, false, false, false, false, true, true, false, false, false, false, false, false, false, false, false, false, false, false, false, false, false, true, true, true, false, false, false, false, false, false, false, false, false, false, false, false, false, false, false, false, false, false, false] x.length (fun i e H' => ∃ (a b : Int) (ov : Value) (out : List Int), e = [junk, w, junk, junk, junk, junk, junk, .pointer (some ⟨G2.length, 0, none⟩), ov, junk, junk, junk, junk, junk, junk, junk, junk, junk, junk, junk, junk, junk, junk, junk, w, .int .i64 (x.length : Nat), .int .i64 i, junk, junk, junk, junk, junk, junk, junk, junk, junk, junk, junk, junk, junk, junk, junk, junk, junk, junk, junk] ∧ Ext G2 H' ∧
    H'[G2.length]? = some (.cells true 0 [.int .i64 f, .int .i64 s, .int .i64 d, .int .i64 a, .int .i64 b]) ∧ OwnI G2 H' out ov ∧ (out.length = 0 ∨ idOf ov ≠ G2.length) ∧ (-1000000000000000 ≤ a ∧ a ≤ 1000000000000000) ∧ (-1000000000000000 ≤ b ∧ b ≤ 1000000000000000) ∧ out.length = i ∧
    eqGo f s d 0 0 x = (eqGo f s d a b (x.drop i)).map (fun r => out ++ r)) ?_ ?_
  · exact ⟨0, 0, .slice none 0 0, [], by simp [forget], x3, m3, OwnI.nil _ _, .inl rfl, by omega, by omega, rfl, by simp⟩
  rintro i e H1 hi ⟨a, b, ov, out, rfl, x1, hm, ho, hid, ha, hb, hol, hgo⟩
  have xH := xH2.trans x1
  ((repeat (first | refine ya (by (with_reducible constructor) <;> first | rfl | decide) ?_ | apply yb | refine yc rfl ?_ | ((first | apply yd | apply ye); simp (disch := first | exact yn | omega | (simp only [go_sem]; done) | (simp only [ln, ym]; omega) | (repeat' first | assumption | exact yo _ | refine yp ?_ _)) only [go_sem]; with_reducible rfl))))
  refine cond_p rfl (fun hlt => ?_) (fun hge => ?_)
  rotate_left 1
  · rw [drop_end (by omega)] at hgo
    have hgo : eqGo f s d 0 0 x = some out := by rw [hgo]; simp [eqGo]
    ((repeat (first | refine ya (by (with_reducible constructor) <;> first | rfl | decide) ?_ | apply yb | refine yc rfl ?_ | ((first | apply yd | apply ye); simp (disch := first | exact yn | omega | (simp only [go_sem]; done) | (simp only [ln, ym]; omega) | (repeat' first | assumption | exact yo _ | refine yp ?_ _)) only [go_sem]; with_reducible rfl))))
    rw [hgo]
    exact fin_2 ⟨ov, rfl, xH, ho.weaken xH2.len⟩
  have hi' : i < x.length := by omega
  have hx1 := hx.ext xH
  rw [drop_getD (d := 0) hi', eqGo_cons] at hgo
  have hab := added_bound he ha hb
  have hxi := s2 i
  ((repeat (first | refine ya (by (with_reducible constructor) <;> first | rfl | decide) ?_ | apply yb | refine yc rfl ?_ | ((first | apply yd | apply ye); simp (disch := first | exact yn | omega | (simp only [go_sem]; done) | (simp only [ln, ym]; omega) | (repeat' first | assumption | exact yo _ | refine yp ?_ _)) only [go_sem, hx1.len, hx1.idx, hx1.load]; with_reducible rfl))))
  refine aops_call_to (added_c hm he ha hb) ?_
  ((repeat (first | refine ya (by (with_reducible constructor) <;> first | rfl | decide) ?_ | apply yb | refine yc rfl ?_ | ((first | apply yd | apply ye); simp (disch := first | exact yn | omega | (simp only [go_sem]; done) | (simp only [ln, ym]; omega) | (repeat' first | assumption | exact yo _ | refine yp ?_ _)) only [go_sem]; with_reducible rfl))))
  refine aops_call_to (isSized_c _ _ (by omega)) ?_
  ((repeat (first | refine ya (by (with_reducible constructor) <;> first | rfl | decide) ?_ | apply yb | refine yc rfl ?_ | ((first | apply yd | apply ye); simp (disch := first | exact yn | omega | (simp only [go_sem]; done) | (simp only [ln, ym]; omega) | (repeat' first | assumption | exact yo _ | refine yp ?_ _)) only [go_sem]; with_reducible rfl))))
  refine cond_n rfl (fun hne => ?_) (fun hok => ?_)
  · rw [if_neg hne] at hgo
    rw [hgo]
    ((repeat (first | refine ya (by (with_reducible constructor) <;> first | rfl | decide) ?_ | apply yb | refine yc rfl ?_ | ((first | apply yd | apply ye); simp (disch := first | exact yn | omega | (simp only [go_sem]; done) | (simp only [ln, ym]; omega) | (repeat' first | assumption | exact yo _ | refine yp ?_ _)) only [go_sem]; with_reducible rfl))))
    exact fin_2 ⟨_, rfl, xH, OwnI.nil _ _⟩
  rw [if_pos hok, map_map_app] at hgo
  ((repeat (first | refine ya (by (with_reducible constructor) <;> first | rfl | decide) ?_ | apply yb | refine yc rfl ?_ | ((first | apply yd | apply ye); simp (disch := first | exact yn | omega | (simp only [go_sem]; done) | (simp only [ln, ym]; omega) | (repeat' first | assumption | exact yo _ | refine yp ?_ _)) only [go_sem]; with_reducible rfl))))
  refine aops_call ((push_c (y := x.getD i 0 + addedI f s d a b) hm).mono fun v1 H2 e3 => ?_)
  subst e3
  have hm2 := get_set_self (d := AObj.cells true 0 [.int .i64 f, .int .i64 s, .int .i64 d, .int .i64 (x.getD i 0 + addedI f s d a b), .int .i64 a]) hm
  have x12 : Ext G2 (H1.set G2.length (AObj.cells true 0 [.int .i64 f, .int .i64 s, .int .i64 d, .int .i64 (x.getD i 0 + addedI f s d a b), .int .i64 a])) := x1.set (Nat.le_refl _) _
  have ho2 := ho.set_ne hid (AObj.cells true 0 [.int .i64 f, .int .i64 s, .int .i64 d, .int .i64 (x.getD i 0 + addedI f s d a b), .int .i64 a])
  generalize (H1.set G2.length (AObj.cells true 0 [.int .i64 f, .int .i64 s, .int .i64 d, .int .i64 (x.getD i 0 + addedI f s d a b), .int .i64 a]) : AHeap) = H2 at hm2 x12 ho2
  have hlt2 := (List.getElem?_eq_some_iff.1 hm2).1
  ((repeat (first | refine ya (by (with_reducible constructor) <;> first | rfl | decide) ?_ | apply yb | refine yc rfl ?_ | ((first | apply yd | apply ye); simp (disch := first | exact yn | omega | (simp only [go_sem]; done) | (simp only [ln, ym]; omega) | (repeat' first | assumption | exact yo _ | refine yp ?_ _)) only [go_sem, ho2.push (by omega) (x.getD i 0 + addedI f s d a b)]; with_reducible rfl))))
  refine ⟨by omega, x.getD i 0 + addedI f s d a b, a, pushV H2 out.length, out ++ [x.getD i 0 + addedI f s d a b], by simp [forget], ho2.ext x12 _, pushH_at hm2 (ho2.nil_or hid), ho2.pushed x12 _, .inr ?_, hok, ha, by simp; omega, hgo⟩
  show H2.length + 1 ≠ G2.length
  omega

theorem restored1_c : Asks (.func (.func 126) #[] #[]) (fun n => !decide (-1000000000000000 ≤ n ∧ n ≤ 1000000000000000)) := fun n H => by
  show ACall _ _ _ _ _
  (refine a126 ?_; simp only [n126, List.replicate, yq, yr, yt, yu]; first | refine q1 ?_ | refine q2 ?_ | refine q6 ?_ | refine q7 ?_ | refine qh rfl ?_ | skip)
  ((repeat (first | refine ya (by (with_reducible constructor) <;> first | rfl | decide) ?_ | apply yb | refine yc rfl ?_ | ((first | apply yd | apply ye); simp (disch := first | exact yn | omega | (simp only [go_sem]; done) | (simp only [ln, ym]; omega) | (repeat' first | assumption | exact yo _ | refine yp ?_ _)) only [go_sem]; with_reducible rfl))))
  refine aops_call_to (isSized_c _ _ (by omega)) ?_
  ((repeat (first | refine ya (by (with_reducible constructor) <;> first | rfl | decide) ?_ | apply yb | refine yc rfl ?_ | ((first | apply yd | apply ye); simp (disch := first | exact yn | omega | (simp only [go_sem]; done) | (simp only [ln, ym]; omega) | (repeat' first | assumption | exact yo _ | refine yp ?_ _)) only [go_sem]; with_reducible rfl))))
  exact fin_1 ⟨rfl, rfl⟩
theorem unGo_cons {f s d a b x : Int} {t : List Int} : unGo f s d a b (x :: t) = (x - addedI f s d a b) :: unGo f s d x a t := rfl

set_option maxHeartbeats 1000000 in
theorem restored_c {f s d : Int} {x : List Int} {w : Value} (hx : Ints H x w) (hxb : x.length ≤ 1000000000) :
    ACall Go.Proofs.Tryd.prog 71 [.agg ⟨[.int .i64 f, .int .i64 s, .int .i64 d]⟩, w] H (IntsRes H (restoredL f s d x).1 (restoredL f s d x).2) := by
  refine ACall.intsE ?_
  (refine a71 ?_; simp only [n71, List.replicate, yq, yr, yt, yu]; first | refine q1 ?_ | refine q2 ?_ | refine q6 ?_ | refine q7 ?_ | refine qh rfl ?_ | skip)
  have g0 : (H ++ [AObj.cells true 0 [.int .i64 f, .int .i64 s, .int .i64 d]])[H.length]? = some (.cells true 0 [.int .i64 f, .int .i64 s, .int .i64 d]) := at_new
  have xG : Ext H (H ++ [AObj.cells true 0 [.int .i64 f, .int .i64 s, .int .i64 d]]) := (Ext.refl H).app _
  ((repeat (first | refine ya (by (with_reducible constructor) <;> first | rfl | decide) ?_ | apply yb | refine yc rfl ?_ | ((first | apply yd | apply ye); simp (disch := first | exact yn | omega | (simp only [go_sem]; done) | (simp only [ln, ym]; omega) | (repeat' first | assumption | exact yo _ | refine yp ?_ _)) only [go_sem, box_3, n3_at g0]; with_reducible rfl))))
  generalize (H ++ [AObj.cells true 0 [.int .i64 f, .int .i64 s, .int .i64 d]] : AHeap) = G at g0 xG
  have hxg := hx.ext xG
  refine aops_call_to (containsFunc_c hxg restored1_c hxb) ?_
  rw [any_not]
  ((repeat (first | refine ya (by (with_reducible constructor) <;> first | rfl | decide) ?_ | apply yb | refine yc rfl ?_ | ((first | apply yd | apply ye); simp (disch := first | exact yn | omega | (simp only [go_sem]; done) | (simp only [ln, ym]; omega) | (repeat' first | assumption | exact yo _ | refine yp ?_ _)) only [go_sem, n3_at g0]; with_reducible rfl))))
  refine aops_call_to (checkEqualizer_c f s d) ?_
  ((repeat (first | refine ya (by (with_reducible constructor) <;> first | rfl | decide) ?_ | apply yb | refine yc rfl ?_ | ((first | apply yd | apply ye); simp (disch := first | exact yn | omega | (simp only [go_sem]; done) | (simp only [ln, ym]; omega) | (repeat' first | assumption | exact yo _ | refine yp ?_ _)) only [go_sem, hxg.len, hxg.idx, hxg.load]; with_reducible rfl))))
  refine aops_call_to (unless_c _ _) ?_
  ((repeat (first | refine ya (by (with_reducible constructor) <;> first | rfl | decide) ?_ | apply yb | refine yc rfl ?_ | ((first | apply yd | apply ye); simp (disch := first | exact yn | omega | (simp only [go_sem]; done) | (simp only [ln, ym]; omega) | (repeat' first | assumption | exact yo _ | refine yp ?_ _)) only [go_sem, Bool.not_not]; with_reducible rfl))))
  refine aops_call_to (unless_c _ _) ?_
  ((repeat (first | refine ya (by (with_reducible constructor) <;> first | rfl | decide) ?_ | apply yb | refine yc rfl ?_ | ((first | apply yd | apply ye); simp (disch := first | exact yn | omega | (simp only [go_sem]; done) | (simp only [ln, ym]; omega) | (repeat' first | assumption | exact yo _ | refine yp ?_ _)) only [go_sem]; with_reducible rfl))))
  refine aops_call_to (first_c (l := [_, _, _]) (Ints.last (l := [_, _, _]) 3) (by simp)) ?_
  have e0 : firstErr [eqErrL f s d, if decide ((x.length : Int) ≤ 400) = true then 0 else 8, if (x.all fun n => decide (-1000000000000000 ≤ n ∧ n ≤ 1000000000000000)) = true then 0 else 2] = (restoredL f s d x).2 := by
    unfold restoredL outErrL
    by_cases h0 : eqErrL f s d = 0
    · by_cases h1 : 400 < x.length
      · have : ¬ (x.length : Int) ≤ 400 := by omega
        simp [firstErr, h0, h1, this]
      · have : (x.length : Int) ≤ 400 := by omega
        cases hq : x.all (fun n => decide (-1000000000000000 ≤ n ∧ n ≤ 1000000000000000)) <;> simp [firstErr, h0, h1, this]
    · simp [firstErr, h0]
  rw [e0]
  ((repeat (first | refine ya (by (with_reducible constructor) <;> first | rfl | decide) ?_ | apply yb | refine yc rfl ?_ | ((first | apply yd | apply ye); simp (disch := first | exact yn | omega | (simp only [go_sem]; done) | (simp only [ln, ym]; omega) | (repeat' first | assumption | exact yo _ | refine yp ?_ _)) only [go_sem]; with_reducible rfl))))
  obtain ⟨G2, hG2⟩ : ∃ G2, G2 = G ++ [AObj.cells true 1 [.int .i64 (eqErrL f s d), .int .i64 (if decide ((x.length : Int) ≤ 400) = true then 0 else 8), .int .i64 (if (x.all fun n => decide (-1000000000000000 ≤ n ∧ n ≤ 1000000000000000)) = true then 0 else 2)]] := ⟨_, rfl⟩
  have x2 : Ext G G2 := by rw [hG2]; exact (Ext.refl G).app _
  rw [← hG2]
  clear hG2
  have g2 := x2.cell g0
  have xH2 := xG.trans x2
  refine cond_p rfl (fun hne => ?_) (fun heq => ?_)
  · have e1 : (restoredL f s d x).1 = [] := by
      unfold restoredL at hne ⊢
      by_cases h1 : eqErrL f s d = 0
      · by_cases h2 : outErrL x = 0
        · rw [if_pos h1, if_pos h2] at hne; exact absurd rfl hne
        · rw [if_pos h1, if_neg h2]
      · rw [if_neg h1]
    rw [e1]
    ((repeat (first | refine ya (by (with_reducible constructor) <;> first | rfl | decide) ?_ | apply yb | refine yc rfl ?_ | ((first | apply yd | apply ye); simp (disch := first | exact yn | omega | (simp only [go_sem]; done) | (simp only [ln, ym]; omega) | (repeat' first | assumption | exact yo _ | refine yp ?_ _)) only [go_sem]; with_reducible rfl))))
    exact fin_2 ⟨_, rfl, xH2, OwnI.nil _ _⟩
  have hboth : eqErrL f s d = 0 ∧ outErrL x = 0 := by
    have h := Decidable.not_not.1 heq
    unfold restoredL at h
    by_cases h1 : eqErrL f s d = 0
    · by_cases h2 : outErrL x = 0
      · exact ⟨h1, h2⟩
      · rw [if_pos h1, if_neg h2] at h; exact absurd h h2
    · rw [if_neg h1] at h; exact absurd h h1
  obtain ⟨he, hs⟩ := hboth
  have e1 : restoredL f s d x = (unGo f s d 0 0 x, 0) := by unfold restoredL; rw [if_pos he, if_pos hs]
  rw [e1]
  obtain ⟨s1, s2⟩ := outErr_ok hs
  have hx2 := hx.ext xH2
  ((repeat (first | refine ya (by (with_reducible constructor) <;> first | rfl | decide) ?_ | apply yb | refine yc rfl ?_ | ((first | apply yd | apply ye); simp (disch := first | exact yn | omega | (simp only [go_sem]; done) | (simp only [ln, ym]; omega) | (repeat' first | assumption | exact yo _ | refine yp ?_ _)) only [go_sem, hx2.len, hx2.idx, hx2.load, n3_at g2, fill_35, box_5]; with_reducible rfl))))
  have m3 : (G2 ++ [AObj.cells true 0 [.int .i64 f, .int .i64 s, .int .i64 d, .int .i64 0, .int .i64 0]])[G2.length]? = some (.cells true 0 [.int .i64 f, .int .i64 s, .int .i64 d, .int .i64 0, .int .i64 0]) := at_new
  have x3 : Ext G2 (G2 ++ [AObj.cells true 0 [.int .i64 f, .int .i64 s, .int .i64 d, .int .i64 0, .int .i64 0]]) := (Ext.refl G2).app _
  generalize (G2 ++ [AObj.cells true 0 [.int .i64 f, .int .i64 s, .int .i64 d, .int .i64 0, .int .i64 0]] : AHeap) = G3 at m3 x3
  refine awp_loop_n [false, true, false, false, false, false, false, false, true, true, false, false, false, false, false, false, false, false, false, false, false, false, false, false, false, false, false, false, false, false, false, true, true, true, false, false, false, false, false, false, false, false, false, false, false, false, false, false, false] x.length (fun i e H' => ∃ (a b : Int) (ov : Value) (out : List Int), e = [junk, w, junk, junk, junk, junk, junk, junk, .pointer (some ⟨G2.length, 0, none⟩), ov, junk, junk, junk, junk, junk, junk, junk, junk, junk, junk, junk, junk, junk, junk, junk, junk, junk, junk, junk, junk, junk, w, .int .i64 (x.length : Nat), .int .i64 i, junk, junk, junk, junk, junk, junk, junk, junk, junk, junk, junk, junk, junk, junk, junk] ∧ Ext G2 H' ∧
    H'[G2.length]? = some (.cells true 0 [.int .i64 f, .int .i64 s, .int .i64 d, .int .i64 a, .int .i64 b]) ∧ OwnI G2 H' out ov ∧ (out.length = 0 ∨ idOf ov ≠ G2.length) ∧ (-1000000000000000 ≤ a ∧ a ≤ 1000000000000000) ∧ (-1000000000000000 ≤ b ∧ b ≤ 1000000000000000) ∧ out.length = i ∧
    unGo f s d 0 0 x = out ++ unGo f s d a b (x.drop i)) ?_ ?_
  · exact ⟨0, 0, .slice none 0 0, [], by simp [forget], x3, m3, OwnI.nil _ _, .inl rfl, by omega, by omega, rfl, by simp⟩
  rintro i e H1 hi ⟨a, b, ov, out, rfl, x1, hm, ho, hid, ha, hb, hol, hgo⟩
  have xH := xH2.trans x1
  ((repeat (first | refine ya (by (with_reducible constructor) <;> first | rfl | decide) ?_ | apply yb | refine yc rfl ?_ | ((first | apply yd | apply ye); simp (disch := first | exact yn | omega | (simp only [go_sem]; done) | (simp only [ln, ym]; omega) | (repeat' first | assumption | exact yo _ | refine yp ?_ _)) only [go_sem]; with_reducible rfl))))
  refine cond_p rfl (fun hlt => ?_) (fun hge => ?_)
  rotate_left 1
  · rw [drop_end (by omega)] at hgo
    have hgo : unGo f s d 0 0 x = out := by rw [hgo]; simp [unGo]
    ((repeat (first | refine ya (by (with_reducible constructor) <;> first | rfl | decide) ?_ | apply yb | refine yc rfl ?_ | ((first | apply yd | apply ye); simp (disch := first | exact yn | omega | (simp only [go_sem]; done) | (simp only [ln, ym]; omega) | (repeat' first | assumption | exact yo _ | refine yp ?_ _)) only [go_sem]; with_reducible rfl))))
    rw [hgo]
    exact fin_2 ⟨ov, rfl, xH, ho.weaken xH2.len⟩
  have hi' : i < x.length := by omega
  have hx1 := hx.ext xH
  rw [drop_getD (d := 0) hi', unGo_cons] at hgo
  have hab := added_bound he ha hb
  have hxi := s2 i
  have hlt1 := (List.getElem?_eq_some_iff.1 hm).1
  ((repeat (first | refine ya (by (with_reducible constructor) <;> first | rfl | decide) ?_ | apply yb | refine yc rfl ?_ | ((first | apply yd | apply ye); simp (disch := first | exact yn | omega | (simp only [go_sem]; done) | (simp only [ln, ym]; omega) | (repeat' first | assumption | exact yo _ | refine yp ?_ _)) only [go_sem, hx1.len, hx1.idx, hx1.load]; with_reducible rfl))))
  refine aops_call_to (added_c hm he ha hb) ?_
  ((repeat (first | refine ya (by (with_reducible constructor) <;> first | rfl | decide) ?_ | apply yb | refine yc rfl ?_ | ((first | apply yd | apply ye); simp (disch := first | exact yn | omega | (simp only [go_sem]; done) | (simp only [ln, ym]; omega) | (repeat' first | assumption | exact yo _ | refine yp ?_ _)) only [go_sem, ho.push (by omega) (x.getD i 0 - addedI f s d a b)]; with_reducible rfl))))
  have hm1 : (pushH H1 ov out (x.getD i 0 - addedI f s d a b))[G2.length]? = some (.cells true 0 [.int .i64 f, .int .i64 s, .int .i64 d, .int .i64 a, .int .i64 b]) := pushH_at hm (ho.nil_or hid)
  have ho1 := ho.pushed x1 (x.getD i 0 - addedI f s d a b)
  have x11 := ho.ext x1 (x.getD i 0 - addedI f s d a b)
  have eid : idOf (pushV H1 out.length) = H1.length + 1 := rfl
  generalize pushH H1 ov out (x.getD i 0 - addedI f s d a b) = H2 at hm1 ho1 x11
  refine aops_call ((push_c (y := x.getD i 0) hm1).mono fun v1 H3 e3 => ?_)
  subst e3
  ((repeat (first | refine ya (by (with_reducible constructor) <;> first | rfl | decide) ?_ | apply yb | refine yc rfl ?_ | ((first | apply yd | apply ye); simp (disch := first | exact yn | omega | (simp only [go_sem]; done) | (simp only [ln, ym]; omega) | (repeat' first | assumption | exact yo _ | refine yp ?_ _)) only [go_sem]; with_reducible rfl))))
  refine ⟨by omega, x.getD i 0, a, pushV H1 out.length, out ++ [x.getD i 0 - addedI f s d a b], by simp [forget], x11.set (Nat.le_refl _) _, get_set_self hm1, ho1.set_ne (.inr (by omega)) _, .inr (by omega), hxi, ha, by simp; omega, by rw [hgo]; simp⟩
end
end Go.Lq


namespace Go.Lq
open Go
open Go.Proofs

theorem eqGo_all {f s d : Int} : ∀ {x y : List Int} {a b : Int}, eqGo f s d a b x = some y → ∀ n ∈ y, -1000000000000000 ≤ n ∧ n ≤ 1000000000000000
  | [], y, a, b, h => by cases h; simp
  | x :: t, y, a, b, h => by
    unfold eqGo at h
    split at h
    · rename_i hb
      obtain ⟨y', h1, rfl⟩ := Option.map_eq_some_iff.1 h
      intro n hn
      rcases List.mem_cons.1 hn with rfl | hn
      · exact hb
      · exact eqGo_all h1 n hn
    · cases h
theorem out_all {y : List Int} (hl : y.length ≤ 400) (h : ∀ n ∈ y, -1000000000000000 ≤ n ∧ n ≤ 1000000000000000) : outErrL y = 0 := by
  unfold outErrL
  rw [if_neg (by omega), if_pos]
  rw [List.all_eq_true]
  intro n hn
  exact decide_eq_true (h n hn)
section
variable {H : AHeap}
end
end Go.Lq

namespace Go.Lq
open Go
open Go.Proofs

def strW (f s : Int) : Int := w64 (w64 (f * sgI f) + w64 (s * sgI s))
def ampErrL (a : Int) : Int := if 0 ≤ a ∧ a ≤ 32767 then 0 else 2
def holdsW (f s d amp b : Int) : Bool := decide (w64 (amp - ((0 - (szI f + szI s)) * b) / d) ≤ b)
theorem sz_bound {n : Int} (h : -1000 ≤ n ∧ n ≤ 1000) : 0 ≤ szI n ∧ szI n ≤ 1000 := by unfold szI; omega
theorem strW_ok {f s d : Int} (h : eqErrL f s d = 0) : strW f s = szI f + szI s := by
  obtain ⟨h1, h2, _⟩ := eqErr_ok h
  have k1 := sz_bound h1
  have k2 := sz_bound h2
  unfold strW
  rw [mul_sg, mul_sg, w64_id (n := szI f) (by omega) (by omega), w64_id (n := szI s) (by omega) (by omega), w64_id (by omega) (by omega)]

section
variable {H : AHeap}
theorem sign_c (n : Int) : ACall Go.Proofs.Tryd.prog 129 [.int .i64 n] H fun v H' => v = .int .i64 (sgI n) ∧ H' = H := by
  (refine a129 ?_; simp only [n129, List.replicate, yq, yr, yt, yu]; first | refine q1 ?_ | refine q2 ?_ | refine q6 ?_ | refine q7 ?_ | refine qh rfl ?_ | skip)
  ((repeat (first | refine ya (by (with_reducible constructor) <;> first | rfl | decide) ?_ | apply yb | refine yc rfl ?_ | ((first | apply yd | apply ye); simp (disch := first | exact yn | omega | (simp only [go_sem]; done) | (simp only [ln, ym]; omega) | (repeat' first | assumption | exact yo _ | refine yp ?_ _)) only [go_sem]; with_reducible rfl))))
  refine cond_p rfl (fun h1 => ?_) (fun h1 => ?_)
  · ((repeat (first | refine ya (by (with_reducible constructor) <;> first | rfl | decide) ?_ | apply yb | refine yc rfl ?_ | ((first | apply yd | apply ye); simp (disch := first | exact yn | omega | (simp only [go_sem]; done) | (simp only [ln, ym]; omega) | (repeat' first | assumption | exact yo _ | refine yp ?_ _)) only [go_sem]; with_reducible rfl))))
    exact fin_1 ⟨by unfold sgI; rw [if_pos h1]; rfl, rfl⟩
  · ((repeat (first | refine ya (by (with_reducible constructor) <;> first | rfl | decide) ?_ | apply yb | refine yc rfl ?_ | ((first | apply yd | apply ye); simp (disch := first | exact yn | omega | (simp only [go_sem]; done) | (simp only [ln, ym]; omega) | (repeat' first | assumption | exact yo _ | refine yp ?_ _)) only [go_sem]; with_reducible rfl))))
    refine cond_p rfl (fun h2 => ?_) (fun h2 => ?_)
    · ((repeat (first | refine ya (by (with_reducible constructor) <;> first | rfl | decide) ?_ | apply yb | refine yc rfl ?_ | ((first | apply yd | apply ye); simp (disch := first | exact yn | omega | (simp only [go_sem]; done) | (simp only [ln, ym]; omega) | (repeat' first | assumption | exact yo _ | refine yp ?_ _)) only [go_sem]; with_reducible rfl))))
      exact fin_1 ⟨by unfold sgI; rw [if_neg h1, if_pos (by omega)]; rfl, rfl⟩
    · ((repeat (first | refine ya (by (with_reducible constructor) <;> first | rfl | decide) ?_ | apply yb | refine yc rfl ?_ | ((first | apply yd | apply ye); simp (disch := first | exact yn | omega | (simp only [go_sem]; done) | (simp only [ln, ym]; omega) | (repeat' first | assumption | exact yo _ | refine yp ?_ _)) only [go_sem]; with_reducible rfl))))
      exact fin_1 ⟨by unfold sgI; rw [if_neg h1, if_neg (by omega)]; rfl, rfl⟩
theorem strength_c (f s d : Int) : ACall Go.Proofs.Tryd.prog 101 [.agg ⟨[.int .i64 f, .int .i64 s, .int .i64 d]⟩] H fun w H' => w = .int .i64 (strW f s) ∧ H' = H := by
  refine ACall.drop (.int _ _) ?_
  (refine a101 ?_; simp only [n101, List.replicate, yq, yr, yt, yu]; first | refine q1 ?_ | refine q2 ?_ | refine q6 ?_ | refine q7 ?_ | refine qh rfl ?_ | skip)
  have g0 : (H ++ [AObj.cells true 0 [.int .i64 f, .int .i64 s, .int .i64 d]])[H.length]? = some (.cells true 0 [.int .i64 f, .int .i64 s, .int .i64 d]) := at_new
  have xG : Ext H (H ++ [AObj.cells true 0 [.int .i64 f, .int .i64 s, .int .i64 d]]) := (Ext.refl H).app _
  ((repeat (first | refine ya (by (with_reducible constructor) <;> first | rfl | decide) ?_ | apply yb | refine yc rfl ?_ | ((first | apply yd | apply ye); simp (disch := first | exact yn | omega | (simp only [go_sem]; done) | (simp only [ln, ym]; omega) | (repeat' first | assumption | exact yo _ | refine yp ?_ _)) only [go_sem, box_3, load_at g0]; with_reducible rfl))))
  generalize (H ++ [AObj.cells true 0 [.int .i64 f, .int .i64 s, .int .i64 d]] : AHeap) = G at g0 xG
  refine adraw_call (N := []) (firstD (sign_c _)) ?_
  rw [List.append_nil]
  ((repeat (first | refine ya (by (with_reducible constructor) <;> first | rfl | decide) ?_ | apply yb | refine yc rfl ?_ | ((first | apply yd | apply ye); simp (disch := first | exact yn | omega | (simp only [go_sem]; done) | (simp only [ln, ym]; omega) | (repeat' first | assumption | exact yo _ | refine yp ?_ _)) only [go_sem, load_at g0]; with_reducible rfl))))
  refine adraw_call (N := []) (firstD (sign_c _)) ?_
  rw [List.append_nil]
  ((repeat (first | refine ya (by (with_reducible constructor) <;> first | rfl | decide) ?_ | apply yb | refine yc rfl ?_ | ((first | apply yd | apply ye); simp (disch := first | exact yn | omega | (simp only [go_sem]; done) | (simp only [ln, ym]; omega) | (repeat' first | assumption | exact yo _ | refine yp ?_ _)) only [go_sem]; with_reducible rfl))))
  exact fin_1 ⟨rfl, xG⟩
theorem holds_c {f s d : Int} (amp b : Int) (he : eqErrL f s d = 0) (hb : 0 ≤ b ∧ b ≤ 1000000000000000) : ACall Go.Proofs.Tryd.prog 102 [.agg ⟨[.int .i64 f, .int .i64 s, .int .i64 d]⟩, .int .i64 amp, .int .i64 b] H fun w H' => w = .bool (holdsW f s d amp b) ∧ H' = H := by
  refine ACall.drop (.bool _) ?_
  (refine a102 ?_; simp only [n102, List.replicate, yq, yr, yt, yu]; first | refine q1 ?_ | refine q2 ?_ | refine q6 ?_ | refine q7 ?_ | refine qh rfl ?_ | skip)
  have g0 : (H ++ [AObj.cells true 0 [.int .i64 f, .int .i64 s, .int .i64 d]])[H.length]? = some (.cells true 0 [.int .i64 f, .int .i64 s, .int .i64 d]) := at_new
  have xG : Ext H (H ++ [AObj.cells true 0 [.int .i64 f, .int .i64 s, .int .i64 d]]) := (Ext.refl H).app _
  obtain ⟨h1, h2, h3⟩ := eqErr_ok he
  have k1 := sz_bound h1
  have k2 := sz_bound h2
  ((repeat (first | refine ya (by (with_reducible constructor) <;> first | rfl | decide) ?_ | apply yb | refine yc rfl ?_ | ((first | apply yd | apply ye); simp (disch := first | exact yn | omega | (simp only [go_sem]; done) | (simp only [ln, ym]; omega) | (repeat' first | assumption | exact yo _ | refine yp ?_ _)) only [go_sem, box_3, n3_at g0, load_at g0]; with_reducible rfl))))
  generalize (H ++ [AObj.cells true 0 [.int .i64 f, .int .i64 s, .int .i64 d]] : AHeap) = G at g0 xG
  refine adraw_call (N := []) (firstD (strength_c f s d)) ?_
  rw [List.append_nil, strW_ok he]
  have m1 := mul_abs (x := 0 - (szI f + szI s)) (y := b) (a := 2000) (b := 1000000000000000) ⟨by omega, by omega⟩ ⟨by omega, by omega⟩
  have k3 : 0 ≤ szI f + szI s ∧ szI f + szI s ≤ 2000 := by omega
  unfold holdsW
  generalize szI f + szI s = S at *
  ((repeat (first | refine ya (by (with_reducible constructor) <;> first | rfl | decide) ?_ | apply yb | refine yc rfl ?_ | ((first | apply yd | apply ye); simp (disch := first | exact yn | omega | (simp only [go_sem]; done) | (simp only [ln, ym]; omega) | (repeat' first | assumption | exact yo _ | refine yp ?_ _)) only [go_sem, load_at g0]; with_reducible rfl))))
  refine adraw_call (N := []) (firstD (rfloor_c _ _ (by omega) (by omega))) ?_
  rw [List.append_nil]
  ((repeat (first | refine ya (by (with_reducible constructor) <;> first | rfl | decide) ?_ | apply yb | refine yc rfl ?_ | ((first | apply yd | apply ye); simp (disch := first | exact yn | omega | (simp only [go_sem]; done) | (simp only [ln, ym]; omega) | (repeat' first | assumption | exact yo _ | refine yp ?_ _)) only [go_sem]; with_reducible rfl))))
  exact fin_1 ⟨rfl, xG⟩
theorem amplitudeErr_c (n : Int) : ACall Go.Proofs.Tryd.prog 100 [.int .i64 n] H fun v H' => v = .int .i64 (ampErrL n) ∧ H' = H := by
  (refine a100 ?_; simp only [n100, List.replicate, yq, yr, yt, yu]; first | refine q1 ?_ | refine q2 ?_ | refine q6 ?_ | refine q7 ?_ | refine qh rfl ?_ | skip)
  ((repeat (first | refine ya (by (with_reducible constructor) <;> first | rfl | decide) ?_ | apply yb | refine yc rfl ?_ | ((first | apply yd | apply ye); simp (disch := first | exact yn | omega | (simp only [go_sem]; done) | (simp only [ln, ym]; omega) | (repeat' first | assumption | exact yo _ | refine yp ?_ _)) only [go_sem]; with_reducible rfl))))
  refine aops_call_to (within_c _ _ _) ?_
  ((repeat (first | refine ya (by (with_reducible constructor) <;> first | rfl | decide) ?_ | apply yb | refine yc rfl ?_ | ((first | apply yd | apply ye); simp (disch := first | exact yn | omega | (simp only [go_sem]; done) | (simp only [ln, ym]; omega) | (repeat' first | assumption | exact yo _ | refine yp ?_ _)) only [go_sem]; with_reducible rfl))))
  refine aops_call_to (unless_c _ _) ?_
  ((repeat (first | refine ya (by (with_reducible constructor) <;> first | rfl | decide) ?_ | apply yb | refine yc rfl ?_ | ((first | apply yd | apply ye); simp (disch := first | exact yn | omega | (simp only [go_sem]; done) | (simp only [ln, ym]; omega) | (repeat' first | assumption | exact yo _ | refine yp ?_ _)) only [go_sem]; with_reducible rfl))))
  exact fin_1 ⟨by unfold ampErrL; by_cases h : 0 ≤ n ∧ n ≤ 32767 <;> simp [h], rfl⟩
theorem holdsW_iff {f s d amp b : Int} (he : eqErrL f s d = 0) (ha : 0 ≤ amp ∧ amp ≤ 32767) (hb : 0 ≤ b ∧ b ≤ 1000000000000000) (hs : szI f + szI s < d) : holdsW f s d amp b = decide (stableW (szI f + szI s) d amp ≤ b) := by
  obtain ⟨h1, h2, h3⟩ := eqErr_ok he
  have k1 := sz_bound h1
  have k2 := sz_bound h2
  have k3 : 0 ≤ szI f + szI s ∧ szI f + szI s ≤ 2000 := by omega
  unfold holdsW
  generalize szI f + szI s = S at *
  have m1 := mul_abs (x := 0 - S) (y := b) (a := 2000) (b := 1000000000000000) ⟨by omega, by omega⟩ ⟨by omega, by omega⟩
  have m2 := ediv_bound (n := (0 - S) * b) (b := d) (m := 2000000000000000000) (by omega) ⟨by omega, by omega⟩
  rw [w64_id (by omega) (by omega)]
  have := holds_stable (s := S) (d := d) (amp := amp) (b := b) (by omega) hs
  unfold holdsB at this
  rw [show (0 - S) * b = -(S * b) by rw [Int.zero_sub, Int.neg_mul]]
  exact decide_eq_decide.2 this
def stableErrL (f s d amp : Int) : Int := firstErr [eqErrL f s d, ampErrL amp, (if decide (strW f s < d) = true then 0 else 22)]
def stableL (f s d amp : Int) : Int := if stableErrL f s d amp = 0 then stableW (szI f + szI s) d amp else 0
theorem stableErr_ok {f s d amp : Int} (h : stableErrL f s d amp = 0) : eqErrL f s d = 0 ∧ (0 ≤ amp ∧ amp ≤ 32767) ∧ szI f + szI s < d := by
  unfold stableErrL at h
  by_cases h1 : eqErrL f s d = 0
  · by_cases h2 : ampErrL amp = 0
    · by_cases h3 : strW f s < d
      · refine ⟨h1, ?_, by rw [← strW_ok h1]; exact h3⟩
        unfold ampErrL at h2
        split at h2
        · assumption
        · cases h2
      · simp [firstErr, h1, h2, h3] at h
    · simp [firstErr, h1, h2] at h
  · simp [firstErr, h1] at h
theorem stableBound_c (f s d amp : Int) : ACall Go.Proofs.Tryd.prog 41 [.agg ⟨[.int .i64 f, .int .i64 s, .int .i64 d]⟩, .int .i64 amp] H fun w H' => w = .tuple #[.int .i64 (stableL f s d amp), .int .i64 (stableErrL f s d amp)] ∧ H' = H := by
  refine ACall.drop (closed_two _ _) ?_
  (refine a41 ?_; simp only [n41, List.replicate, yq, yr, yt, yu]; first | refine q1 ?_ | refine q2 ?_ | refine q6 ?_ | refine q7 ?_ | refine qh rfl ?_ | skip)
  have g0 : (H ++ [AObj.cells true 0 [.int .i64 f, .int .i64 s, .int .i64 d]])[H.length]? = some (.cells true 0 [.int .i64 f, .int .i64 s, .int .i64 d]) := at_new
  have xG : Ext H (H ++ [AObj.cells true 0 [.int .i64 f, .int .i64 s, .int .i64 d]]) := (Ext.refl H).app _
  ((repeat (first | refine ya (by (with_reducible constructor) <;> first | rfl | decide) ?_ | apply yb | refine yc rfl ?_ | ((first | apply yd | apply ye); simp (disch := first | exact yn | omega | (simp only [go_sem]; done) | (simp only [ln, ym]; omega) | (repeat' first | assumption | exact yo _ | refine yp ?_ _)) only [go_sem, box_3, n3_at g0, load_at g0]; with_reducible rfl))))
  generalize (H ++ [AObj.cells true 0 [.int .i64 f, .int .i64 s, .int .i64 d]] : AHeap) = G at g0 xG
  refine adraw_call (N := []) (firstD (checkEqualizer_c f s d)) ?_
  rw [List.append_nil]
  ((repeat (first | refine ya (by (with_reducible constructor) <;> first | rfl | decide) ?_ | apply yb | refine yc rfl ?_ | ((first | apply yd | apply ye); simp (disch := first | exact yn | omega | (simp only [go_sem]; done) | (simp only [ln, ym]; omega) | (repeat' first | assumption | exact yo _ | refine yp ?_ _)) only [go_sem]; with_reducible rfl))))
  refine adraw_call (N := []) (firstD (amplitudeErr_c _)) ?_
  rw [List.append_nil]
  ((repeat (first | refine ya (by (with_reducible constructor) <;> first | rfl | decide) ?_ | apply yb | refine yc rfl ?_ | ((first | apply yd | apply ye); simp (disch := first | exact yn | omega | (simp only [go_sem]; done) | (simp only [ln, ym]; omega) | (repeat' first | assumption | exact yo _ | refine yp ?_ _)) only [go_sem, n3_at g0]; with_reducible rfl))))
  refine adraw_call (N := []) (firstD (strength_c f s d)) ?_
  rw [List.append_nil]
  ((repeat (first | refine ya (by (with_reducible constructor) <;> first | rfl | decide) ?_ | apply yb | refine yc rfl ?_ | ((first | apply yd | apply ye); simp (disch := first | exact yn | omega | (simp only [go_sem]; done) | (simp only [ln, ym]; omega) | (repeat' first | assumption | exact yo _ | refine yp ?_ _)) only [go_sem, load_at g0]; with_reducible rfl))))
  refine adraw_call (N := []) (firstD (unless_c _ _)) ?_
  rw [List.append_nil]
  ((repeat (first | refine ya (by (with_reducible constructor) <;> first | rfl | decide) ?_ | apply yb | refine yc rfl ?_ | ((first | apply yd | apply ye); simp (disch := first | exact yn | omega | (simp only [go_sem]; done) | (simp only [ln, ym]; omega) | (repeat' first | assumption | exact yo _ | refine yp ?_ _)) only [go_sem]; with_reducible rfl))))
  refine adraw_call (N := []) (firstD (first_c (l := [_, _, _]) (Ints.last (l := [_, _, _]) 3) (by simp))) ?_
  rw [List.append_nil]
  have g1 := (Ext.refl G).app [AObj.cells true 1 [.int .i64 (eqErrL f s d), .int .i64 (ampErrL amp), .int .i64 (if decide (strW f s < d) = true then 0 else 22)]]
  have g2 := g1.cell g0
  have x1 := xG.trans g1
  generalize (G ++ [AObj.cells true 1 [.int .i64 (eqErrL f s d), .int .i64 (ampErrL amp), .int .i64 (if decide (strW f s < d) = true then 0 else 22)]] : AHeap) = G1 at g2 x1
  have hfe : firstErr [eqErrL f s d, ampErrL amp, (if decide (strW f s < d) = true then 0 else 22)] = stableErrL f s d amp := rfl
  rw [hfe]
  by_cases hz : stableErrL f s d amp = 0
  rotate_left 1
  · ((repeat (first | refine ya (by (with_reducible constructor) <;> first | rfl | decide) ?_ | apply yb | refine yc rfl ?_ | ((first | apply yd | apply ye); simp (disch := first | exact yn | omega | (simp only [go_sem]; done) | (simp only [ln, ym]; omega) | (repeat' first | assumption | exact yo _ | refine yp ?_ _)) only [go_sem, dec_t (show stableErrL f s d amp ≠ 0 from hz)]; with_reducible rfl))))
    refine cond_t rfl ?_
    ((repeat (first | refine ya (by (with_reducible constructor) <;> first | rfl | decide) ?_ | apply yb | refine yc rfl ?_ | ((first | apply yd | apply ye); simp (disch := first | exact yn | omega | (simp only [go_sem]; done) | (simp only [ln, ym]; omega) | (repeat' first | assumption | exact yo _ | refine yp ?_ _)) only [go_sem]; with_reducible rfl))))
    exact fin_2 ⟨by unfold stableL; rw [if_neg hz]; rfl, x1⟩
  ((repeat (first | refine ya (by (with_reducible constructor) <;> first | rfl | decide) ?_ | apply yb | refine yc rfl ?_ | ((first | apply yd | apply ye); simp (disch := first | exact yn | omega | (simp only [go_sem]; done) | (simp only [ln, ym]; omega) | (repeat' first | assumption | exact yo _ | refine yp ?_ _)) only [go_sem, hz]; with_reducible rfl))))
  refine cond_f rfl ?_
  obtain ⟨he, ha, hs⟩ := stableErr_ok hz
  obtain ⟨_, _, h3⟩ := eqErr_ok he
  have w0 := stableW_nn (amp := amp) ha.1 (show 0 < d by omega) hs
  have w1 := stableW_le ha h3 hs
  have hv : stableL f s d amp = stableW (szI f + szI s) d amp := by unfold stableL; rw [if_pos hz]
  have hh := fun b hb => holdsW_iff (b := b) he ha hb hs
  rw [hv]
  generalize stableW (szI f + szI s) d amp = W at w0 w1 hh
  ((repeat (first | refine ya (by (with_reducible constructor) <;> first | rfl | decide) ?_ | apply yb | refine yc rfl ?_ | ((first | apply yd | apply ye); simp (disch := first | exact yn | omega | (simp only [go_sem]; done) | (simp only [ln, ym]; omega) | (repeat' first | assumption | exact yo _ | refine yp ?_ _)) only [go_sem]; with_reducible rfl))))
  refine awp_loop [false, true, true, false, false, false, false, true, true, false, false, false, false, false, false, false, false, false, false, false, false, false, false, false, false, false, false, false, false, false, false, false, false, false, false, false, false, false, false, false] (fun k e H' => H' = G1 ∧ ∃ lo hi : Int, k = (hi - lo).toNat ∧ -1 ≤ lo ∧ lo < W ∧ W ≤ hi ∧ hi ≤ 1000000000000000 ∧ e = [junk, .int .i64 amp, .pointer (some ⟨H.length, 0, none⟩), junk, junk, junk, junk, .int .i64 lo, .int .i64 hi, junk, junk, junk, junk, junk, junk, junk, junk, junk, junk, junk, junk, junk, junk, junk, junk, junk, junk, junk, junk, junk, junk, junk, junk, junk, junk, junk, junk, junk, junk, junk]) 1000000000000001 ?_ ?_
  · exact ⟨rfl, -1, 1000000000000000, by decide, by omega, by omega, by omega, by omega, rfl⟩
  · rintro k e H' ⟨rfl, lo, hi, rfl, u1, u2, u3, u4, rfl⟩
    have em : 0 ≤ lo + hi → (lo + hi).tdiv 2 = (lo + hi) / 2 := fun h => Int.tdiv_eq_ediv_of_nonneg h
    ((repeat (first | refine ya (by (with_reducible constructor) <;> first | rfl | decide) ?_ | apply yb | refine yc rfl ?_ | ((first | apply yd | apply ye); simp (disch := first | exact yn | omega | (simp only [go_sem]; done) | (simp only [ln, ym]; omega) | (repeat' first | assumption | exact yo _ | refine yp ?_ _)) only [go_sem]; with_reducible rfl))))
    refine cond_p rfl (fun hlt => ?_) (fun hge => ?_)
    · rw [Int.add_comm] at hlt
      ((repeat (first | refine ya (by (with_reducible constructor) <;> first | rfl | decide) ?_ | apply yb | refine yc rfl ?_ | ((first | apply yd | apply ye); simp (disch := first | exact yn | omega | (simp only [go_sem]; done) | (simp only [ln, ym]; omega) | (repeat' first | assumption | exact yo _ | refine yp ?_ _)) only [go_sem, em (by omega), n3_at g2]; with_reducible rfl))))
      refine aops_call_to (holds_c amp ((lo + hi) / 2) he (by omega)) ?_
      rw [hh _ (by omega)]
      ((repeat (first | refine ya (by (with_reducible constructor) <;> first | rfl | decide) ?_ | apply yb | refine yc rfl ?_ | ((first | apply yd | apply ye); simp (disch := first | exact yn | omega | (simp only [go_sem]; done) | (simp only [ln, ym]; omega) | (repeat' first | assumption | exact yo _ | refine yp ?_ _)) only [go_sem]; with_reducible rfl))))
      refine cond_p rfl (fun hy => ?_) (fun hn => ?_)
      · ((repeat (first | refine ya (by (with_reducible constructor) <;> first | rfl | decide) ?_ | apply yb | refine yc rfl ?_ | ((first | apply yd | apply ye); simp (disch := first | exact yn | omega | (simp only [go_sem]; done) | (simp only [ln, ym]; omega) | (repeat' first | assumption | exact yo _ | refine yp ?_ _)) only [go_sem]; with_reducible rfl))))
        exact ⟨_, by omega, rfl, lo, (lo + hi) / 2, rfl, by omega, by omega, by omega, by omega, rfl⟩
      · ((repeat (first | refine ya (by (with_reducible constructor) <;> first | rfl | decide) ?_ | apply yb | refine yc rfl ?_ | ((first | apply yd | apply ye); simp (disch := first | exact yn | omega | (simp only [go_sem]; done) | (simp only [ln, ym]; omega) | (repeat' first | assumption | exact yo _ | refine yp ?_ _)) only [go_sem]; with_reducible rfl))))
        exact ⟨_, by omega, rfl, (lo + hi) / 2, hi, rfl, by omega, by omega, by omega, by omega, rfl⟩
    · ((repeat (first | refine ya (by (with_reducible constructor) <;> first | rfl | decide) ?_ | apply yb | refine yc rfl ?_ | ((first | apply yd | apply ye); simp (disch := first | exact yn | omega | (simp only [go_sem]; done) | (simp only [ln, ym]; omega) | (repeat' first | assumption | exact yo _ | refine yp ?_ _)) only [go_sem]; with_reducible rfl))))
      refine fin_2 ⟨?_, x1⟩
      have : hi = W := by omega
      rw [this, hz]; rfl
theorem bceil_c (n b : Int) (hb : 0 < b ∧ b ≤ 1000000000) (hn : -4000000000000000000 ≤ n ∧ n ≤ 4000000000000000000) :
    ACall Go.Proofs.Tryd.prog 84 [.int .i64 n, .int .i64 b] H fun v H' => v = .int .i64 (-(-n / b)) ∧ H' = H := by
  have m2 := ediv_bound (n := -n) (b := b) (m := 4000000000000000000) hb.1 ⟨by omega, by omega⟩
  (refine a84 ?_; simp only [n84, List.replicate, yq, yr, yt, yu]; first | refine q1 ?_ | refine q2 ?_ | refine q6 ?_ | refine q7 ?_ | refine qh rfl ?_ | skip)
  ((repeat (first | refine ya (by (with_reducible constructor) <;> first | rfl | decide) ?_ | apply yb | refine yc rfl ?_ | ((first | apply yd | apply ye); simp (disch := first | exact yn | omega | (simp only [go_sem]; done) | (simp only [ln, ym]; omega) | (repeat' first | assumption | exact yo _ | refine yp ?_ _)) only [go_sem]; with_reducible rfl))))
  refine aops_call_to (bfloor_c _ _ hb (by omega)) ?_
  rw [Int.zero_sub]
  ((repeat (first | refine ya (by (with_reducible constructor) <;> first | rfl | decide) ?_ | apply yb | refine yc rfl ?_ | ((first | apply yd | apply ye); simp (disch := first | exact yn | omega | (simp only [go_sem]; done) | (simp only [ln, ym]; omega) | (repeat' first | assumption | exact yo _ | refine yp ?_ _)) only [go_sem]; with_reducible rfl))))
  exact fin_1 ⟨by simp, rfl⟩
end
end Go.Lq

namespace Go.Lq

def degErrL (n : Int) : Int := if n = 1 ∨ n = 3 then 0 else 15
theorem degErr_ok {n : Int} (h : degErrL n = 0) : n = 1 ∨ n = 3 := by
  unfold degErrL at h
  split at h
  · assumption
  · cases h
def weightsL (deg f : Int) : List Int :=
  if deg = 1 then [64 - f, f] else [(0 - f) * (f - 64) * (f - 128), 3 * (f + 64) * (f - 64) * (f - 128), -3 * (f + 64) * f * (f - 128), (f + 64) * f * (f - 64)]
def denL (deg : Int) : Int := if deg = 1 then 64 else 1572864
def fromL (deg : Int) : Int := if deg = 1 then 0 else -1
def rdenL (deg : Int) : Int := if deg = 1 then 8192 else 402653184
theorem weights_len (deg f : Int) : (weightsL deg f).length = if deg = 1 then 2 else 4 := by
  unfold weightsL; split <;> rfl
theorem weights_len_le (deg f : Int) : (weightsL deg f).length ≤ 4 := by rw [weights_len]; split <;> omega
theorem weights_bound {deg f : Int} (hd : deg = 1 ∨ deg = 3) (h : 0 ≤ f ∧ f ≤ 63) : ∀ j : Nat, -3121152 ≤ (weightsL deg f).getD j 0 ∧ (weightsL deg f).getD j 0 ≤ 3121152 := by
  have m1 := mul_abs (x := 0 - f) (y := f - 64) (a := 63) (b := 64) ⟨by omega, by omega⟩ ⟨by omega, by omega⟩
  have m2 := mul_abs (x := (0 - f) * (f - 64)) (y := f - 128) (a := 4032) (b := 128) ⟨by omega, by omega⟩ ⟨by omega, by omega⟩
  have m3 := mul_abs (x := 3 * (f + 64)) (y := f - 64) (a := 381) (b := 64) ⟨by omega, by omega⟩ ⟨by omega, by omega⟩
  have m4 := mul_abs (x := 3 * (f + 64) * (f - 64)) (y := f - 128) (a := 24384) (b := 128) ⟨by omega, by omega⟩ ⟨by omega, by omega⟩
  have m5 := mul_abs (x := -3 * (f + 64)) (y := f) (a := 381) (b := 63) ⟨by omega, by omega⟩ ⟨by omega, by omega⟩
  have m6 := mul_abs (x := -3 * (f + 64) * f) (y := f - 128) (a := 24003) (b := 128) ⟨by omega, by omega⟩ ⟨by omega, by omega⟩
  have m7 := mul_abs (x := f + 64) (y := f) (a := 127) (b := 63) ⟨by omega, by omega⟩ ⟨by omega, by omega⟩
  have m8 := mul_abs (x := (f + 64) * f) (y := f - 64) (a := 8001) (b := 64) ⟨by omega, by omega⟩ ⟨by omega, by omega⟩
  intro j
  rcases hd with rfl | rfl
  · match j with
    | 0 => simp [weightsL]; omega
    | 1 => simp [weightsL]; omega
    | j + 2 => simp [weightsL]
  · match j with
    | 0 => show -3121152 ≤ (0 - f) * (f - 64) * (f - 128) ∧ (0 - f) * (f - 64) * (f - 128) ≤ 3121152; omega
    | 1 => show -3121152 ≤ 3 * (f + 64) * (f - 64) * (f - 128) ∧ 3 * (f + 64) * (f - 64) * (f - 128) ≤ 3121152; omega
    | 2 => show -3121152 ≤ -3 * (f + 64) * f * (f - 128) ∧ -3 * (f + 64) * f * (f - 128) ≤ 3121152; omega
    | 3 => show -3121152 ≤ (f + 64) * f * (f - 64) ∧ (f + 64) * f * (f - 64) ≤ 3121152; omega
    | j + 4 => simp [weightsL]
def clampI (n : Nat) (j : Int) : Nat := (min (max j 0) ((n : Int) - 1)).toNat
theorem clampI_lt {n : Nat} {j : Int} (h : 0 < n) : clampI n j < n := by unfold clampI; omega
def valTo (w x : List Int) (at0 : Int) : Nat → Int
  | 0 => 0
  | i + 1 => valTo w x at0 i + w.getD i 0 * x.getD (clampI x.length (at0 + i)) 0
def valueL (deg : Int) (x : List Int) (q : Int) : Int := valTo (weightsL deg (q % 64)) x (q / 64 + fromL deg) (weightsL deg (q % 64)).length
theorem valTo_bound {w x : List Int} {at0 : Int} {a b : Nat} (hw : ∀ j : Nat, -(a : Int) ≤ w.getD j 0 ∧ w.getD j 0 ≤ a) (hx : ∀ j : Nat, -(b : Int) ≤ x.getD j 0 ∧ x.getD j 0 ≤ b) : ∀ i : Nat, -((a * b * i : Nat) : Int) ≤ valTo w x at0 i ∧ valTo w x at0 i ≤ ((a * b * i : Nat) : Int)
  | 0 => by simp [valTo]
  | i + 1 => by
    have ih := valTo_bound (at0 := at0) hw hx i
    have := mul_abs (hw i) (hx (clampI x.length (at0 + i)))
    unfold valTo
    rw [Nat.mul_add, Nat.mul_one]
    generalize a * b * i = u at *
    generalize a * b = t at *
    omega
theorem value_bound {deg : Int} {x : List Int} {q : Int} (hd : deg = 1 ∨ deg = 3) (hx : ∀ j : Nat, -32767 ≤ x.getD j 0 ∧ x.getD j 0 ≤ 32767) (hq : 0 ≤ q) : -500000000000 ≤ valueL deg x q ∧ valueL deg x q ≤ 500000000000 := by
  have h1 := valTo_bound (a := 3121152) (b := 32767) (at0 := q / 64 + fromL deg) (weights_bound hd (show 0 ≤ q % 64 ∧ q % 64 ≤ 63 by omega)) hx (weightsL deg (q % 64)).length
  have h2 := weights_len_le deg (q % 64)
  unfold valueL
  have h3 := Nat.mul_le_mul_left (3121152 * 32767) h2
  omega
end Go.Lq

namespace Go.Lq
open Go
open Go.Proofs

attribute [go_sem] Bool.false_bne Bool.true_bne
theorem gcdI_step {a b : Int} : gcdI b (a.tmod b) = gcdI a b := by
  unfold gcdI Int.gcd
  rw [Int.natAbs_tmod, Nat.gcd_comm b.natAbs, ← Nat.gcd_rec, Nat.gcd_comm]
theorem gcdI_zero (a : Int) : gcdI a 0 = max a (-a) := by
  unfold gcdI
  rw [Int.gcd_zero_right]
  omega
theorem tmod_small {a b : Int} (hb : b ≠ 0) : (a.tmod b).natAbs < b.natAbs := by
  rw [Int.natAbs_tmod]
  exact Nat.mod_lt _ (by omega)
theorem low_tdiv {n d : Int} : n.tdiv (gcdI n d) = (lowF n d).1 ∧ d.tdiv (gcdI n d) = (lowF n d).2 :=
  ⟨Int.tdiv_eq_ediv_of_dvd (Int.gcd_dvd_left ..), Int.tdiv_eq_ediv_of_dvd (Int.gcd_dvd_right ..)⟩
theorem lowF_bound {n d : Int} {m : Nat} (hd : 0 < d) (h : -(m : Int) ≤ n ∧ n ≤ m) : -(m : Int) ≤ (lowF n d).1 ∧ (lowF n d).1 ≤ m := ediv_bound (gcdI_pos hd) h
theorem lowF_den_le {n d : Int} (hd : 0 < d) : (lowF n d).2 ≤ d := Int.ediv_le_self _ (by omega)
abbrev fracV (p : Int × Int) : Value := .agg ⟨[.int .i64 p.1, .int .i64 p.2]⟩
theorem closed_frac (p : Int × Int) : Closed (fracV p) := .agg _ (closed_list (l := [.int .i64 p.1, .int .i64 p.2]) fun v hv => by
  simp only [List.mem_cons, List.not_mem_nil, or_false] at hv
  rcases hv with rfl | rfl <;> exact .int _ _)
theorem closed_frac1 (p : Int × Int) (e : Int) : Closed (.tuple #[fracV p, .int .i64 e]) := .tuple _ (closed_list (l := [fracV p, .int .i64 e]) fun v hv => by
  simp only [List.mem_cons, List.not_mem_nil, or_false] at hv
  rcases hv with rfl | rfl
  · exact closed_frac p
  · exact .int _ _)
theorem fill2i {x y : Value} {a b : Int} : fillA [x, y] [(0, 1, .int .i64 a), (1, 1, .int .i64 b)] = some [.int .i64 a, .int .i64 b] := fill2v rfl

section
variable {H : AHeap}
theorem divisor_c (n d : Int) (hn : -4000000000000000000 ≤ n ∧ n ≤ 4000000000000000000) (hd : -4000000000000000000 ≤ d ∧ d ≤ 4000000000000000000) :
    ACall Go.Proofs.Tryd.prog 144 [.int .i64 n, .int .i64 d] H fun v H' => v = .int .i64 (gcdI n d) ∧ H' = H := by
  (refine a144 ?_; simp only [n144, List.replicate, yq, yr, yt, yu]; first | refine q1 ?_ | refine q2 ?_ | refine q6 ?_ | refine q7 ?_ | refine qh rfl ?_ | skip)
  ((repeat (first | refine ya (by (with_reducible constructor) <;> first | rfl | decide) ?_ | apply yb | refine yc rfl ?_ | ((first | apply yd | apply ye); simp (disch := first | exact yn | omega | (simp only [go_sem]; done) | (simp only [ln, ym]; omega) | (repeat' first | assumption | exact yo _ | refine yp ?_ _)) only [go_sem]; with_reducible rfl))))
  refine awp_loop [true, true, false, false, false, false, false, false, false, false, false, false, false, false, false] (fun k e H' => H' = H ∧ ∃ a b : Int, k = b.natAbs ∧ gcdI a b = gcdI n d ∧ (-4000000000000000000 ≤ a ∧ a ≤ 4000000000000000000) ∧ (-4000000000000000000 ≤ b ∧ b ≤ 4000000000000000000) ∧ e = [.int .i64 a, .int .i64 b, junk, junk, junk, junk, junk, junk, junk, junk, junk, junk, junk, junk, junk]) d.natAbs ?_ ?_
  · exact ⟨rfl, n, d, rfl, rfl, hn, hd, rfl⟩
  rintro k e H' ⟨rfl, a, b, rfl, hg, ha, hb, rfl⟩
  ((repeat (first | refine ya (by (with_reducible constructor) <;> first | rfl | decide) ?_ | apply yb | refine yc rfl ?_ | ((first | apply yd | apply ye); simp (disch := first | exact yn | omega | (simp only [go_sem]; done) | (simp only [ln, ym]; omega) | (repeat' first | assumption | exact yo _ | refine yp ?_ _)) only [go_sem]; with_reducible rfl))))
  refine cond_p rfl (fun hne => ?_) (fun heq => ?_)
  · have hm := tmod_small (a := a) hne
    ((repeat (first | refine ya (by (with_reducible constructor) <;> first | rfl | decide) ?_ | apply yb | refine yc rfl ?_ | ((first | apply yd | apply ye); simp (disch := first | exact yn | omega | (simp only [go_sem]; done) | (simp only [ln, ym]; omega) | (repeat' first | assumption | exact yo _ | refine yp ?_ _)) only [go_sem, a_rem hne]; with_reducible rfl))))
    exact ⟨_, hm, rfl, b, a.tmod b, rfl, gcdI_step.trans hg, hb, by omega, rfl⟩
  · have h0 : b = 0 := by omega
    subst h0
    ((repeat (first | refine ya (by (with_reducible constructor) <;> first | rfl | decide) ?_ | apply yb | refine yc rfl ?_ | ((first | apply yd | apply ye); simp (disch := first | exact yn | omega | (simp only [go_sem]; done) | (simp only [ln, ym]; omega) | (repeat' first | assumption | exact yo _ | refine yp ?_ _)) only [go_sem]; with_reducible rfl))))
    exact fin_1 ⟨by rw [← hg, gcdI_zero]; simp, rfl⟩
theorem bgcd_c (n d : Int) (hn : -4000000000000000000 ≤ n ∧ n ≤ 4000000000000000000) (hd : -4000000000000000000 ≤ d ∧ d ≤ 4000000000000000000) :
    ACall Go.Proofs.Tryd.prog 122 [.int .i64 n, .int .i64 d] H fun v H' => v = .int .i64 (gcdI n d) ∧ H' = H := by
  (refine a122 ?_; simp only [n122, List.replicate, yq, yr, yt, yu]; first | refine q1 ?_ | refine q2 ?_ | refine q6 ?_ | refine q7 ?_ | refine qh rfl ?_ | skip)
  ((repeat (first | refine ya (by (with_reducible constructor) <;> first | rfl | decide) ?_ | apply yb | refine yc rfl ?_ | ((first | apply yd | apply ye); simp (disch := first | exact yn | omega | (simp only [go_sem]; done) | (simp only [ln, ym]; omega) | (repeat' first | assumption | exact yo _ | refine yp ?_ _)) only [go_sem]; with_reducible rfl))))
  refine awp_loop [true, true, false, false, false, false, false, false, false, false, false, false, false] (fun k e H' => H' = H ∧ ∃ a b : Int, k = b.natAbs ∧ gcdI a b = gcdI n d ∧ (-4000000000000000000 ≤ a ∧ a ≤ 4000000000000000000) ∧ (-4000000000000000000 ≤ b ∧ b ≤ 4000000000000000000) ∧ e = [.int .i64 a, .int .i64 b, junk, junk, junk, junk, junk, junk, junk, junk, junk, junk, junk]) d.natAbs ?_ ?_
  · exact ⟨rfl, n, d, rfl, rfl, hn, hd, rfl⟩
  rintro k e H' ⟨rfl, a, b, rfl, hg, ha, hb, rfl⟩
  ((repeat (first | refine ya (by (with_reducible constructor) <;> first | rfl | decide) ?_ | apply yb | refine yc rfl ?_ | ((first | apply yd | apply ye); simp (disch := first | exact yn | omega | (simp only [go_sem]; done) | (simp only [ln, ym]; omega) | (repeat' first | assumption | exact yo _ | refine yp ?_ _)) only [go_sem]; with_reducible rfl))))
  refine cond_p rfl (fun hne => ?_) (fun heq => ?_)
  · have hm := tmod_small (a := a) hne
    ((repeat (first | refine ya (by (with_reducible constructor) <;> first | rfl | decide) ?_ | apply yb | refine yc rfl ?_ | ((first | apply yd | apply ye); simp (disch := first | exact yn | omega | (simp only [go_sem]; done) | (simp only [ln, ym]; omega) | (repeat' first | assumption | exact yo _ | refine yp ?_ _)) only [go_sem, a_rem hne]; with_reducible rfl))))
    exact ⟨_, hm, rfl, b, a.tmod b, rfl, gcdI_step.trans hg, hb, by omega, rfl⟩
  · have h0 : b = 0 := by omega
    subst h0
    ((repeat (first | refine ya (by (with_reducible constructor) <;> first | rfl | decide) ?_ | apply yb | refine yc rfl ?_ | ((first | apply yd | apply ye); simp (disch := first | exact yn | omega | (simp only [go_sem]; done) | (simp only [ln, ym]; omega) | (repeat' first | assumption | exact yo _ | refine yp ?_ _)) only [go_sem]; with_reducible rfl))))
    refine aops_call_to (bsize_c _ (by omega)) ?_
    ((repeat (first | refine ya (by (with_reducible constructor) <;> first | rfl | decide) ?_ | apply yb | refine yc rfl ?_ | ((first | apply yd | apply ye); simp (disch := first | exact yn | omega | (simp only [go_sem]; done) | (simp only [ln, ym]; omega) | (repeat' first | assumption | exact yo _ | refine yp ?_ _)) only [go_sem]; with_reducible rfl))))
    exact fin_1 ⟨by rw [← hg, gcdI_zero]; rfl, rfl⟩
theorem lowest_c (n d : Int) (hn : -4000000000000000000 ≤ n ∧ n ≤ 4000000000000000000) (hd : 0 < d ∧ d ≤ 4000000000000000000) :
    ACall Go.Proofs.Tryd.prog 121 [.int .i64 n, .int .i64 d] H fun v H' => v = fracV (lowF n d) ∧ H' = H := by
  have hp := gcdI_pos (n := n) hd.1
  have ne : gcdI n d ≠ 0 := by omega
  obtain ⟨e1, e2⟩ := low_tdiv (n := n) (d := d)
  have b1 := lowF_bound (n := n) (d := d) (m := 4000000000000000000) hd.1 ⟨by omega, by omega⟩
  have b2 := lowF_den_le (n := n) hd.1
  have b3 := lowF_pos (n := n) hd.1
  refine ACall.drop (closed_frac _) ?_
  (refine a121 ?_; simp only [n121, List.replicate, yq, yr, yt, yu]; first | refine q1 ?_ | refine q2 ?_ | refine q6 ?_ | refine q7 ?_ | refine qh rfl ?_ | skip)
  ((repeat (first | refine ya (by (with_reducible constructor) <;> first | rfl | decide) ?_ | apply yb | refine yc rfl ?_ | ((first | apply yd | apply ye); simp (disch := first | exact yn | omega | (simp only [go_sem]; done) | (simp only [ln, ym]; omega) | (repeat' first | assumption | exact yo _ | refine yp ?_ _)) only [go_sem]; with_reducible rfl))))
  refine aops_call_to (divisor_c n d hn ⟨by omega, hd.2⟩) ?_
  generalize gcdI n d = g at *
  generalize lowF n d = p at *
  ((repeat (first | refine ya (by (with_reducible constructor) <;> first | rfl | decide) ?_ | apply yb | refine yc rfl ?_ | ((first | apply yd | apply ye); simp (disch := first | exact yn | omega | (simp only [go_sem]; done) | (simp only [ln, ym]; omega) | (repeat' first | assumption | exact yo _ | refine yp ?_ _)) only [go_sem, a_quo ne, e1, e2, fill2i]; with_reducible rfl))))
  refine fin_l1 (u := fracV p) ?_ ?_
  · exact loadN_at at_new (by simp)
  · exact ⟨rfl, (Ext.refl _).app _⟩
end
end Go.Lq

namespace Go.Lq
open Go
open Go.Proofs

theorem isAtom_nilFunc : isAtom .nilFunc = true := rfl
theorem constOk_nilFunc : constOk .nilFunc = true := rfl
attribute [go_sem] r_idxA isAtom_nilFunc constOk_nilFunc
def wFn (deg : Int) : FuncId := if deg = 1 then 173 else 175
def pFn (deg : Int) : FuncId := if deg = 1 then 174 else 176
abbrev fnV (f : FuncId) : Value := .func (.func f) #[] #[]
def kern (deg : Int) : List Value := [.int .i64 (fromL deg), .int .i64 (denL deg), fnV (wFn deg), fnV (pFn deg), .int .i64 (rdenL deg)]
theorem kern_atoms (deg : Int) : (kern deg).all isAtom = true := rfl
theorem kern_idx {H : AHeap} {deg : Int} (hd : deg = 1 ∨ deg = 3) : idxAR 4 5 (.pointer (some ⟨0, 0, none⟩)) (.int .i64 deg) H = some (.pointer (some ⟨0, (5 * deg).toNat, none⟩), H) := by
  rcases hd with rfl | rfl
  · exact idxA_at (n := 1) (by omega)
  · exact idxA_at (n := 3) (by omega)
theorem kern_load {H : AHeap} (hx : Ext H0 H) {deg : Int} (hd : deg = 1 ∨ deg = 3) : loadNR 5 (.pointer (some ⟨0, (5 * deg).toNat, none⟩)) H = some (.agg ⟨kern deg⟩, H) := by
  have h0 : H[0]? = some (.cells false 5 kernelCells) := by rw [hx.get (by decide)]; rfl
  rcases hd with rfl | rfl
  · exact loadN_at h0 (by decide)
  · exact loadN_at h0 (by decide)
theorem box_kern {H : AHeap} {deg : Int} : boxR (.agg ⟨kern deg⟩) H = some (.pointer (some ⟨H.length, 0, none⟩), H ++ [.cells true 0 (kern deg)]) := box_agg (kern_atoms deg)
theorem store_kern {H : AHeap} {deg : Int} {a b c d e : Value} : storeR 5 (.pointer (some ⟨H.length, 0, none⟩)) (.agg ⟨kern deg⟩) (H ++ [.cells true 0 [a, b, c, d, e]]) = some (undef, H ++ [.cells true 0 (kern deg)]) := store_newN (kern_atoms deg) rfl rfl
section
variable {G : AHeap} {id : Nat} {deg : Int} {e : Nat}
theorem kern_from (h : G[id]? = some (.cells true e (kern deg))) : loadR (.pointer (some ⟨id, 0, none⟩)) G = some (.int .i64 (fromL deg), G) := by rw [load_at h]; rfl
theorem kern_den (h : G[id]? = some (.cells true e (kern deg))) : loadR (.pointer (some ⟨id, 1, none⟩)) G = some (.int .i64 (denL deg), G) := by rw [load_at h]; rfl
theorem kern_w (h : G[id]? = some (.cells true e (kern deg))) : loadR (.pointer (some ⟨id, 2, none⟩)) G = some (fnV (wFn deg), G) := by rw [load_at h]; rfl
theorem kern_all (h : G[id]? = some (.cells true e (kern deg))) : loadNR 5 (.pointer (some ⟨id, 0, none⟩)) G = some (.agg ⟨kern deg⟩, G) := loadN_at h (by show 0 + 5 ≤ 5; omega)
end

section
variable {H : AHeap}
theorem degreeErr_c (n : Int) : ACall Go.Proofs.Tryd.prog 95 [.int .i64 n] H fun v H' => v = .int .i64 (degErrL n) ∧ H' = H := by
  (refine a95 ?_; simp only [n95, List.replicate, yq, yr, yt, yu]; first | refine q1 ?_ | refine q2 ?_ | refine q6 ?_ | refine q7 ?_ | refine qh rfl ?_ | skip)
  by_cases h1 : n = 1
  · ((repeat (first | refine ya (by (with_reducible constructor) <;> first | rfl | decide) ?_ | apply yb | refine yc rfl ?_ | ((first | apply yd | apply ye); simp (disch := first | exact yn | omega | (simp only [go_sem]; done) | (simp only [ln, ym]; omega) | (repeat' first | assumption | exact yo _ | refine yp ?_ _)) only [go_sem, dec_t h1]; with_reducible rfl))))
    refine aops_call_to (unless_c _ _) ?_
    ((repeat (first | refine ya (by (with_reducible constructor) <;> first | rfl | decide) ?_ | apply yb | refine yc rfl ?_ | ((first | apply yd | apply ye); simp (disch := first | exact yn | omega | (simp only [go_sem]; done) | (simp only [ln, ym]; omega) | (repeat' first | assumption | exact yo _ | refine yp ?_ _)) only [go_sem]; with_reducible rfl))))
    exact fin_1 ⟨by unfold degErrL; rw [if_pos (.inl h1)]; rfl, rfl⟩
  · ((repeat (first | refine ya (by (with_reducible constructor) <;> first | rfl | decide) ?_ | apply yb | refine yc rfl ?_ | ((first | apply yd | apply ye); simp (disch := first | exact yn | omega | (simp only [go_sem]; done) | (simp only [ln, ym]; omega) | (repeat' first | assumption | exact yo _ | refine yp ?_ _)) only [go_sem, dec_f h1]; with_reducible rfl))))
    refine aops_call_to (unless_c _ _) ?_
    ((repeat (first | refine ya (by (with_reducible constructor) <;> first | rfl | decide) ?_ | apply yb | refine yc rfl ?_ | ((first | apply yd | apply ye); simp (disch := first | exact yn | omega | (simp only [go_sem]; done) | (simp only [ln, ym]; omega) | (repeat' first | assumption | exact yo _ | refine yp ?_ _)) only [go_sem]; with_reducible rfl))))
    exact fin_1 ⟨by unfold degErrL; by_cases h3 : n = 3 <;> simp [h1, h3], rfl⟩
theorem weights_c {deg f : Int} (hd : deg = 1 ∨ deg = 3) (h : 0 ≤ f ∧ f ≤ 63) : ACall Go.Proofs.Tryd.prog (wFn deg) [.int .i64 f] H fun v H' =>
    v = .slice (some ⟨H.length, 0, none⟩) (weightsL deg f).length (weightsL deg f).length ∧ H' = H ++ [.cells true 1 ((weightsL deg f).map (.int .i64))] := by
  have m1 := mul_abs (x := 0 - f) (y := f - 64) (a := 63) (b := 64) ⟨by omega, by omega⟩ ⟨by omega, by omega⟩
  have m2 := mul_abs (x := (0 - f) * (f - 64)) (y := f - 128) (a := 4032) (b := 128) ⟨by omega, by omega⟩ ⟨by omega, by omega⟩
  have m3 := mul_abs (x := 3 * (f + 64)) (y := f - 64) (a := 381) (b := 64) ⟨by omega, by omega⟩ ⟨by omega, by omega⟩
  have m4 := mul_abs (x := 3 * (f + 64) * (f - 64)) (y := f - 128) (a := 24384) (b := 128) ⟨by omega, by omega⟩ ⟨by omega, by omega⟩
  have m5 := mul_abs (x := -3 * (f + 64)) (y := f) (a := 381) (b := 63) ⟨by omega, by omega⟩ ⟨by omega, by omega⟩
  have m6 := mul_abs (x := -3 * (f + 64) * f) (y := f - 128) (a := 24003) (b := 128) ⟨by omega, by omega⟩ ⟨by omega, by omega⟩
  have m7 := mul_abs (x := f + 64) (y := f) (a := 127) (b := 63) ⟨by omega, by omega⟩ ⟨by omega, by omega⟩
  have m8 := mul_abs (x := (f + 64) * f) (y := f - 64) (a := 8001) (b := 64) ⟨by omega, by omega⟩ ⟨by omega, by omega⟩
  rcases hd with rfl | rfl
  · show ACall _ 173 _ _ _
    (refine a173 ?_; simp only [n173, List.replicate, yq, yr, yt, yu]; first | refine q1 ?_ | refine q2 ?_ | refine q6 ?_ | refine q7 ?_ | refine qh rfl ?_ | skip)
    ((repeat (first | refine ya (by (with_reducible constructor) <;> first | rfl | decide) ?_ | apply yb | refine yc rfl ?_ | ((first | apply yd | apply ye); simp (disch := first | exact yn | omega | (simp only [go_sem]; done) | (simp only [ln, ym]; omega) | (repeat' first | assumption | exact yo _ | refine yp ?_ _)) only [go_sem]; with_reducible rfl))))
    exact fin_1 ⟨rfl, rfl⟩
  · show ACall _ 175 _ _ _
    (refine a175 ?_; simp only [n175, List.replicate, yq, yr, yt, yu]; first | refine q1 ?_ | refine q2 ?_ | refine q6 ?_ | refine q7 ?_ | refine qh rfl ?_ | skip)
    ((repeat (first | refine ya (by (with_reducible constructor) <;> first | rfl | decide) ?_ | apply yb | refine yc rfl ?_ | ((first | apply yd | apply ye); simp (disch := first | exact yn | omega | (simp only [go_sem]; done) | (simp only [ln, ym]; omega) | (repeat' first | assumption | exact yo _ | refine yp ?_ _)) only [go_sem]; with_reducible rfl))))
    exact fin_1 ⟨rfl, rfl⟩
theorem value_c {deg q : Int} {x : List Int} {v : Value} (hd : deg = 1 ∨ deg = 3) (hX : Ints H x v) (hxl : x.length ≤ 400) (hxb : ∀ j : Nat, -32767 ≤ x.getD j 0 ∧ x.getD j 0 ≤ 32767) (hq : 0 ≤ q ∧ q ≤ 64 * ((x.length : Int) - 1)) :
    ACall Go.Proofs.Tryd.prog 92 [.agg ⟨kern deg⟩, v, .int .i64 q] H fun w H' => w = .int .i64 (valueL deg x q) ∧ H' = H := by
  refine ACall.drop (.int _ _) ?_
  have hx0 : 0 < x.length := by omega
  have hm : 0 ≤ q % 64 ∧ q % 64 ≤ 63 := by omega
  have e1 : q.tmod 64 = q % 64 := Int.tmod_eq_emod_of_nonneg hq.1
  have e2 : q.tdiv 64 = q / 64 := Int.tdiv_eq_ediv_of_nonneg hq.1
  have hfr : -1 ≤ fromL deg ∧ fromL deg ≤ 0 := by unfold fromL; split <;> omega
  have wb := weights_bound hd hm
  have wl := weights_len_le deg (q % 64)
  have hfin : valTo (weightsL deg (q % 64)) x (q / 64 + fromL deg) (weightsL deg (q % 64)).length = valueL deg x q := rfl
  (refine a92 ?_; simp only [n92, List.replicate, yq, yr, yt, yu]; first | refine q1 ?_ | refine q2 ?_ | refine q6 ?_ | refine q7 ?_ | refine qh rfl ?_ | skip)
  (repeat (first | refine ya (by (with_reducible constructor) <;> first | rfl | decide) ?_ | (apply yd; simp (disch := first | exact yn | omega | (simp only [go_sem]; done) | (simp only [ln, ym]; omega) | (repeat' first | assumption | exact yo _ | refine yp ?_ _)) only [go_sem, box_kern]; with_reducible rfl)))
  have g0 : (H ++ [AObj.cells true 0 (kern deg)])[H.length]? = some (.cells true 0 (kern deg)) := at_new
  have xG : Ext H (H ++ [AObj.cells true 0 (kern deg)]) := (Ext.refl H).app _
  generalize (H ++ [AObj.cells true 0 (kern deg)] : AHeap) = G at g0 xG
  ((repeat (first | refine ya (by (with_reducible constructor) <;> first | rfl | decide) ?_ | apply yb | refine yc rfl ?_ | ((first | apply yd | apply ye); simp (disch := first | exact yn | omega | (simp only [go_sem]; done) | (simp only [ln, ym]; omega) | (repeat' first | assumption | exact yo _ | refine yp ?_ _)) only [go_sem, kern_w g0, a_rem (show (64 : Int) ≠ 0 by decide), e1]; with_reducible rfl))))
  refine aops_call ((weights_c (H := G) hd hm).mono fun u G1 ⟨h1, h2⟩ => ?_)
  have hW : Ints G1 (weightsL deg (q % 64)) u := by rw [h1, h2]; exact Ints.last _
  have x1 : Ext G G1 := ⟨_, h2⟩
  clear h1 h2
  generalize weightsL deg (q % 64) = ws at hW wb wl hfin
  have hX1 := hX.ext (xG.trans x1)
  have g1 := x1.cell g0
  ((repeat (first | refine ya (by (with_reducible constructor) <;> first | rfl | decide) ?_ | apply yb | refine yc rfl ?_ | ((first | apply yd | apply ye); simp (disch := first | exact yn | omega | (simp only [go_sem]; done) | (simp only [ln, ym]; omega) | (repeat' first | assumption | exact yo _ | refine yp ?_ _)) only [go_sem, hW.len, hW.idx, hW.load]; with_reducible rfl))))
  refine awp_loop_n [false, true, true, true, false, false, false, true, false, false, false, false, false, false, false, true, true, true, false, false, false, false, false, false, false, false, false, false, false, false, false, false, false, false, false, false, false, false, false, false, false, false, false, false] ws.length (fun i e H' => H' = G1 ∧ e = [junk, v, .int .i64 q, .pointer (some ⟨H.length, 0, none⟩), junk, junk, junk, .int .i64 (valTo ws x (q / 64 + fromL deg) i), junk, junk, junk, junk, junk, junk, junk, u, .int .i64 (ws.length : Nat), .int .i64 i, junk, junk, junk, junk, junk, junk, junk, junk, junk, junk, junk, junk, junk, junk, junk, junk, junk, junk, junk, junk, junk, junk, junk, junk, junk, junk]) ?_ ?_
  · exact ⟨rfl, by simp [forget, valTo]⟩
  rintro i e H' hi ⟨rfl, rfl⟩
  have b1 := valTo_bound (a := 3121152) (b := 32767) (at0 := q / 64 + fromL deg) wb hxb i
  ((repeat (first | refine ya (by (with_reducible constructor) <;> first | rfl | decide) ?_ | apply yb | refine yc rfl ?_ | ((first | apply yd | apply ye); simp (disch := first | exact yn | omega | (simp only [go_sem]; done) | (simp only [ln, ym]; omega) | (repeat' first | assumption | exact yo _ | refine yp ?_ _)) only [go_sem]; with_reducible rfl))))
  refine cond_p rfl (fun hlt => ?_) (fun hge => ?_)
  · have hi' : i < ws.length := by omega
    have hcl := clampI_lt (j := q / 64 + fromL deg + i) hx0
    have b2 := mul_abs (x := ws.getD i 0) (y := x.getD (clampI x.length (q / 64 + fromL deg + i)) 0) (a := 3121152) (b := 32767) (wb i) (hxb _)
    have ec : (min (max (q / 64 + fromL deg + i) 0) ((x.length : Int) - 1)).toNat = clampI x.length (q / 64 + fromL deg + i) := rfl
    have ecb : 0 ≤ min (max (q / 64 + fromL deg + i) 0) ((x.length : Int) - 1) ∧ min (max (q / 64 + fromL deg + i) 0) ((x.length : Int) - 1) < x.length := by omega
    ((repeat (first | refine ya (by (with_reducible constructor) <;> first | rfl | decide) ?_ | apply yb | refine yc rfl ?_ | ((first | apply yd | apply ye); simp (disch := first | exact yn | omega | (simp only [go_sem]; done) | (simp only [ln, ym]; omega) | (repeat' first | assumption | exact yo _ | refine yp ?_ _)) only [go_sem, hW.len, hW.idx, hW.load, hX1.len, hX1.idx, hX1.load, kern_from g1, e2, ec]; with_reducible rfl))))
    exact ⟨by omega, rfl, by simp [forget, valTo]⟩
  · obtain rfl : i = ws.length := by omega
    rw [hfin]
    ((repeat (first | refine ya (by (with_reducible constructor) <;> first | rfl | decide) ?_ | apply yb | refine yc rfl ?_ | ((first | apply yd | apply ye); simp (disch := first | exact yn | omega | (simp only [go_sem]; done) | (simp only [ln, ym]; omega) | (repeat' first | assumption | exact yo _ | refine yp ?_ _)) only [go_sem]; with_reducible rfl))))
    exact fin_1 ⟨rfl, xG.trans x1⟩
end
end Go.Lq

namespace Go.Lq
open Go
open Go.Proofs

section
variable {H : AHeap}
theorem checkFilter_c {c : List Int} {v : Value} {d : Int} (hc : Ints H c v) (hb : c.length ≤ 1000000000) : ACall Go.Proofs.Tryd.prog 59 [.agg ⟨[v, .int .i64 d]⟩] H fun w H' => w = .int .i64 (filterErrL c d) ∧ H' = H := by
  refine ACall.drop (.int _ _) ?_
  (refine a59 ?_; simp only [n59, List.replicate, yq, yr, yt, yu]; first | refine q1 ?_ | refine q2 ?_ | refine q6 ?_ | refine q7 ?_ | refine qh rfl ?_ | skip)
  have g0 : (H ++ [AObj.cells true 0 [v, .int .i64 d]])[H.length]? = some (.cells true 0 [v, .int .i64 d]) := at_new
  have hc1 := hc.ext ((Ext.refl H).app [AObj.cells true 0 [v, .int .i64 d]])
  have xG : Ext H (H ++ [AObj.cells true 0 [v, .int .i64 d]]) := (Ext.refl H).app _
  ((repeat (first | refine ya (by (with_reducible constructor) <;> first | rfl | decide) ?_ | apply yb | refine yc rfl ?_ | ((first | apply yd | apply ye); simp (disch := first | exact yn | omega | (simp only [go_sem]; done) | (simp only [ln, ym]; omega) | (repeat' first | assumption | exact yo _ | refine yp ?_ _)) only [go_sem, hc.box2, load_at g0]; with_reducible rfl))))
  generalize (H ++ [AObj.cells true 0 [v, .int .i64 d]] : AHeap) = G at g0 hc1 xG
  refine aops_call_to (containsFunc_c hc1 checkFilter1_c hb) ?_
  rw [any_not]
  ((repeat (first | refine ya (by (with_reducible constructor) <;> first | rfl | decide) ?_ | apply yb | refine yc rfl ?_ | ((first | apply yd | apply ye); simp (disch := first | exact yn | omega | (simp only [go_sem]; done) | (simp only [ln, ym]; omega) | (repeat' first | assumption | exact yo _ | refine yp ?_ _)) only [go_sem, hc1.len, hc1.idx, hc1.load, load_at g0]; with_reducible rfl))))
  refine adraw_call (N := []) (firstD (unless_c _ _)) ?_
  rw [List.append_nil]
  ((repeat (first | refine ya (by (with_reducible constructor) <;> first | rfl | decide) ?_ | apply yb | refine yc rfl ?_ | ((first | apply yd | apply ye); simp (disch := first | exact yn | omega | (simp only [go_sem]; done) | (simp only [ln, ym]; omega) | (repeat' first | assumption | exact yo _ | refine yp ?_ _)) only [go_sem, hc1.len, hc1.idx, hc1.load, load_at g0]; with_reducible rfl))))
  refine adraw_call (N := []) (firstD (unless_c _ _)) ?_
  rw [List.append_nil]
  by_cases hall : c.all (fun n => decide (-1000 ≤ n ∧ n ≤ 1000)) = true
  · ((repeat (first | refine ya (by (with_reducible constructor) <;> first | rfl | decide) ?_ | apply yb | refine yc rfl ?_ | ((first | apply yd | apply ye); simp (disch := first | exact yn | omega | (simp only [go_sem]; done) | (simp only [ln, ym]; omega) | (repeat' first | assumption | exact yo _ | refine yp ?_ _)) only [go_sem, load_at g0, hall]; with_reducible rfl))))
    refine adraw_call (N := []) (firstD (isDen_c _)) ?_
    rw [List.append_nil]
    ((repeat (first | refine ya (by (with_reducible constructor) <;> first | rfl | decide) ?_ | apply yb | refine yc rfl ?_ | ((first | apply yd | apply ye); simp (disch := first | exact yn | omega | (simp only [go_sem]; done) | (simp only [ln, ym]; omega) | (repeat' first | assumption | exact yo _ | refine yp ?_ _)) only [go_sem, hall]; with_reducible rfl))))
    refine adraw_call (N := []) (firstD (unless_c _ _)) ?_
    rw [List.append_nil]
    ((repeat (first | refine ya (by (with_reducible constructor) <;> first | rfl | decide) ?_ | apply yb | refine yc rfl ?_ | ((first | apply yd | apply ye); simp (disch := first | exact yn | omega | (simp only [go_sem]; done) | (simp only [ln, ym]; omega) | (repeat' first | assumption | exact yo _ | refine yp ?_ _)) only [go_sem]; with_reducible rfl))))
    refine adraw_call (N := []) (firstD (first_c (l := [_, _, _]) (Ints.last (l := [_, _, _]) 3) (by simp))) ?_
    rw [List.append_nil]
    ((repeat (first | refine ya (by (with_reducible constructor) <;> first | rfl | decide) ?_ | apply yb | refine yc rfl ?_ | ((first | apply yd | apply ye); simp (disch := first | exact yn | omega | (simp only [go_sem]; done) | (simp only [ln, ym]; omega) | (repeat' first | assumption | exact yo _ | refine yp ?_ _)) only [go_sem]; with_reducible rfl))))
    refine fin_1 ⟨?_, xG.app _⟩
    by_cases h1 : c.length = 0
    · have ev : filterErrL c d = 10 := by unfold filterErrL; rw [if_pos h1]
      rw [ev]; simp [firstErr, h1]
    · by_cases h2 : 8 < c.length
      · have ev : filterErrL c d = 8 := by unfold filterErrL; rw [if_neg h1, if_pos h2]
        have k1 : 0 < c.length := by omega
        have k2 : ¬ (c.length : Int) ≤ 8 := by omega
        rw [ev]; simp [firstErr, k1, k2]
      · have k1 : 0 < c.length := by omega
        have k2 : (c.length : Int) ≤ 8 := by omega
        by_cases h3 : 1 ≤ d ∧ d ≤ 1000
        · have ev : filterErrL c d = 0 := by unfold filterErrL; rw [if_neg h1, if_neg h2, if_pos ⟨hall, h3⟩]
          rw [ev]; simp [firstErr, k1, k2, h3]
        · have ev : filterErrL c d = 2 := by unfold filterErrL; rw [if_neg h1, if_neg h2, if_neg (fun h => h3 h.2)]
          rw [ev]; simp [firstErr, k1, k2, h3]
  · have hall' : c.all (fun n => decide (-1000 ≤ n ∧ n ≤ 1000)) = false := by simpa using hall
    ((repeat (first | refine ya (by (with_reducible constructor) <;> first | rfl | decide) ?_ | apply yb | refine yc rfl ?_ | ((first | apply yd | apply ye); simp (disch := first | exact yn | omega | (simp only [go_sem]; done) | (simp only [ln, ym]; omega) | (repeat' first | assumption | exact yo _ | refine yp ?_ _)) only [go_sem, load_at g0, hall']; with_reducible rfl))))
    refine adraw_call (N := []) (firstD (unless_c _ _)) ?_
    rw [List.append_nil]
    ((repeat (first | refine ya (by (with_reducible constructor) <;> first | rfl | decide) ?_ | apply yb | refine yc rfl ?_ | ((first | apply yd | apply ye); simp (disch := first | exact yn | omega | (simp only [go_sem]; done) | (simp only [ln, ym]; omega) | (repeat' first | assumption | exact yo _ | refine yp ?_ _)) only [go_sem]; with_reducible rfl))))
    refine adraw_call (N := []) (firstD (first_c (l := [_, _, _]) (Ints.last (l := [_, _, _]) 3) (by simp))) ?_
    rw [List.append_nil]
    ((repeat (first | refine ya (by (with_reducible constructor) <;> first | rfl | decide) ?_ | apply yb | refine yc rfl ?_ | ((first | apply yd | apply ye); simp (disch := first | exact yn | omega | (simp only [go_sem]; done) | (simp only [ln, ym]; omega) | (repeat' first | assumption | exact yo _ | refine yp ?_ _)) only [go_sem]; with_reducible rfl))))
    refine fin_1 ⟨?_, xG.app _⟩
    by_cases h1 : c.length = 0
    · have ev : filterErrL c d = 10 := by unfold filterErrL; rw [if_pos h1]
      rw [ev]; simp [firstErr, h1]
    · by_cases h2 : 8 < c.length
      · have ev : filterErrL c d = 8 := by unfold filterErrL; rw [if_neg h1, if_pos h2]
        have k1 : 0 < c.length := by omega
        have k2 : ¬ (c.length : Int) ≤ 8 := by omega
        rw [ev]; simp [firstErr, k1, k2]
      · have k1 : 0 < c.length := by omega
        have k2 : (c.length : Int) ≤ 8 := by omega
        have ev : filterErrL c d = 2 := by unfold filterErrL; rw [if_neg h1, if_neg h2, if_neg (fun h => by rw [h.1] at hall'; cases hall')]
        rw [ev]; simp [firstErr, k1, k2]

theorem refFilterErr_big {c : List Int} {v : Value} {d : Int} (hc : Ints H c v) : ACall Go.Proofs.Tryd.prog 58 [.agg ⟨[v, .int .i64 d]⟩] H fun w H' => w = .int .i64 (filterErrL c d) ∧ H' = H := by
  refine ACall.drop (.int _ _) ?_
  (refine a58 ?_; simp only [n58, List.replicate, yq, yr, yt, yu]; first | refine q1 ?_ | refine q2 ?_ | refine q6 ?_ | refine q7 ?_ | refine qh rfl ?_ | skip)
  have g0 : (H ++ [AObj.cells true 0 [v, .int .i64 d]])[H.length]? = some (.cells true 0 [v, .int .i64 d]) := at_new
  have hc1 := hc.ext ((Ext.refl H).app [AObj.cells true 0 [v, .int .i64 d]])
  have xG : Ext H (H ++ [AObj.cells true 0 [v, .int .i64 d]]) := (Ext.refl H).app _
  ((repeat (first | refine ya (by (with_reducible constructor) <;> first | rfl | decide) ?_ | apply yb | refine yc rfl ?_ | ((first | apply yd | apply ye); simp (disch := first | exact yn | omega | (simp only [go_sem]; done) | (simp only [ln, ym]; omega) | (repeat' first | assumption | exact yo _ | refine yp ?_ _)) only [go_sem, hc1.len, hc1.idx, hc1.load, hc.box2, load_at g0]; with_reducible rfl))))
  generalize (H ++ [AObj.cells true 0 [v, .int .i64 d]] : AHeap) = G at g0 hc1 xG
  refine cond_p rfl (fun h1 => ?_) (fun h1 => ?_)
  · ((repeat (first | refine ya (by (with_reducible constructor) <;> first | rfl | decide) ?_ | apply yb | refine yc rfl ?_ | ((first | apply yd | apply ye); simp (disch := first | exact yn | omega | (simp only [go_sem]; done) | (simp only [ln, ym]; omega) | (repeat' first | assumption | exact yo _ | refine yp ?_ _)) only [go_sem]; with_reducible rfl))))
    refine fin_1 ⟨?_, xG⟩
    unfold filterErrL
    rw [if_pos (by omega)]; rfl
  ((repeat (first | refine ya (by (with_reducible constructor) <;> first | rfl | decide) ?_ | apply yb | refine yc rfl ?_ | ((first | apply yd | apply ye); simp (disch := first | exact yn | omega | (simp only [go_sem]; done) | (simp only [ln, ym]; omega) | (repeat' first | assumption | exact yo _ | refine yp ?_ _)) only [go_sem, hc1.len, hc1.idx, hc1.load, load_at g0]; with_reducible rfl))))
  refine cond_p rfl (fun h2 => ?_) (fun h2 => ?_)
  · ((repeat (first | refine ya (by (with_reducible constructor) <;> first | rfl | decide) ?_ | apply yb | refine yc rfl ?_ | ((first | apply yd | apply ye); simp (disch := first | exact yn | omega | (simp only [go_sem]; done) | (simp only [ln, ym]; omega) | (repeat' first | assumption | exact yo _ | refine yp ?_ _)) only [go_sem]; with_reducible rfl))))
    refine fin_1 ⟨?_, xG⟩
    unfold filterErrL
    rw [if_neg (by omega), if_pos (by omega)]; rfl
  ((repeat (first | refine ya (by (with_reducible constructor) <;> first | rfl | decide) ?_ | apply yb | refine yc rfl ?_ | ((first | apply yd | apply ye); simp (disch := first | exact yn | omega | (simp only [go_sem]; done) | (simp only [ln, ym]; omega) | (repeat' first | assumption | exact yo _ | refine yp ?_ _)) only [go_sem]; with_reducible rfl))))
  refine awp_loop_n [false, true, false, true, false, false, false, false, false, false, false, false, false, false, false, false, false, false, false, false, false, false, false, false, false, false, false, false, false, false] c.length (fun i e H' => G = H' ∧ e = [junk, .pointer (some ⟨H.length, 0, none⟩), junk, .int .i64 i, junk, junk, junk, junk, junk, junk, junk, junk, junk, junk, junk, junk, junk, junk, junk, junk, junk, junk, junk, junk, junk, junk, junk, junk, junk, junk] ∧ ∀ j < i, decide (-1000 ≤ c.getD j 0 ∧ c.getD j 0 ≤ 1000) = true) ?_ ?_
  · exact ⟨rfl, by simp [forget], by omega⟩
  rintro i e H' hi ⟨rfl, rfl, hp⟩
  ((repeat (first | refine ya (by (with_reducible constructor) <;> first | rfl | decide) ?_ | apply yb | refine yc rfl ?_ | ((first | apply yd | apply ye); simp (disch := first | exact yn | omega | (simp only [go_sem]; done) | (simp only [ln, ym]; omega) | (repeat' first | assumption | exact yo _ | refine yp ?_ _)) only [go_sem, hc1.len, hc1.idx, hc1.load, load_at g0]; with_reducible rfl))))
  refine cond_p rfl (fun hlt => ?_) (fun hge => ?_)
  · ((repeat (first | refine ya (by (with_reducible constructor) <;> first | rfl | decide) ?_ | apply yb | refine yc rfl ?_ | ((first | apply yd | apply ye); simp (disch := first | exact yn | omega | (simp only [go_sem]; done) | (simp only [ln, ym]; omega) | (repeat' first | assumption | exact yo _ | refine yp ?_ _)) only [go_sem, hc1.len, hc1.idx, hc1.load, load_at g0]; with_reducible rfl))))
    refine aops_call_to (bwithin_c _ _ _) ?_
    ((repeat (first | refine ya (by (with_reducible constructor) <;> first | rfl | decide) ?_ | apply yb | refine yc rfl ?_ | ((first | apply yd | apply ye); simp (disch := first | exact yn | omega | (simp only [go_sem]; done) | (simp only [ln, ym]; omega) | (repeat' first | assumption | exact yo _ | refine yp ?_ _)) only [go_sem]; with_reducible rfl))))
    refine cond_n rfl (fun hne => ?_) (fun heq => ?_)
    · ((repeat (first | refine ya (by (with_reducible constructor) <;> first | rfl | decide) ?_ | apply yb | refine yc rfl ?_ | ((first | apply yd | apply ye); simp (disch := first | exact yn | omega | (simp only [go_sem]; done) | (simp only [ln, ym]; omega) | (repeat' first | assumption | exact yo _ | refine yp ?_ _)) only [go_sem]; with_reducible rfl))))
      refine fin_1 ⟨?_, xG⟩
      have : c.all (fun n => decide (-1000 ≤ n ∧ n ≤ 1000)) = false := all_false (d := 0) (i := i) (by omega) (by simpa using hne)
      unfold filterErrL
      rw [if_neg (by omega), if_neg (by omega), if_neg (fun h => by rw [this] at h; cases h.1)]; rfl
    · ((repeat (first | refine ya (by (with_reducible constructor) <;> first | rfl | decide) ?_ | apply yb | refine yc rfl ?_ | ((first | apply yd | apply ye); simp (disch := first | exact yn | omega | (simp only [go_sem]; done) | (simp only [ln, ym]; omega) | (repeat' first | assumption | exact yo _ | refine yp ?_ _)) only [go_sem]; with_reducible rfl))))
      refine ⟨by omega, rfl, by simp [forget], fun j hj => ?_⟩
      by_cases h : j = i
      · subst h; exact decide_eq_true heq
      · exact hp j (by omega)
  · have hall : c.all (fun n => decide (-1000 ≤ n ∧ n ≤ 1000)) = true := all_true (d := 0) fun j hj => hp j (by omega)
    ((repeat (first | refine ya (by (with_reducible constructor) <;> first | rfl | decide) ?_ | apply yb | refine yc rfl ?_ | ((first | apply yd | apply ye); simp (disch := first | exact yn | omega | (simp only [go_sem]; done) | (simp only [ln, ym]; omega) | (repeat' first | assumption | exact yo _ | refine yp ?_ _)) only [go_sem, load_at g0]; with_reducible rfl))))
    refine aops_call_to (bwithin_c _ _ _) ?_
    ((repeat (first | refine ya (by (with_reducible constructor) <;> first | rfl | decide) ?_ | apply yb | refine yc rfl ?_ | ((first | apply yd | apply ye); simp (disch := first | exact yn | omega | (simp only [go_sem]; done) | (simp only [ln, ym]; omega) | (repeat' first | assumption | exact yo _ | refine yp ?_ _)) only [go_sem]; with_reducible rfl))))
    refine cond_n rfl (fun hne => ?_) (fun heq => ?_)
    · ((repeat (first | refine ya (by (with_reducible constructor) <;> first | rfl | decide) ?_ | apply yb | refine yc rfl ?_ | ((first | apply yd | apply ye); simp (disch := first | exact yn | omega | (simp only [go_sem]; done) | (simp only [ln, ym]; omega) | (repeat' first | assumption | exact yo _ | refine yp ?_ _)) only [go_sem]; with_reducible rfl))))
      refine fin_1 ⟨?_, xG⟩
      unfold filterErrL
      rw [if_neg (by omega), if_neg (by omega), if_neg (fun h => hne h.2)]; rfl
    · ((repeat (first | refine ya (by (with_reducible constructor) <;> first | rfl | decide) ?_ | apply yb | refine yc rfl ?_ | ((first | apply yd | apply ye); simp (disch := first | exact yn | omega | (simp only [go_sem]; done) | (simp only [ln, ym]; omega) | (repeat' first | assumption | exact yo _ | refine yp ?_ _)) only [go_sem]; with_reducible rfl))))
      refine fin_1 ⟨?_, xG⟩
      unfold filterErrL
      rw [if_neg (by omega), if_neg (by omega), if_pos ⟨hall, heq⟩]; rfl

def filtTo (c x : List Int) (d : Int) (n : Nat) : List Int := (List.range n).map fun n => sumAt c x n / d
theorem filtTo_len (c x : List Int) (d : Int) (n : Nat) : (filtTo c x d n).length = n := by simp [filtTo]
theorem filtTo_succ (c x : List Int) (d : Int) (n : Nat) : filtTo c x d (n + 1) = filtTo c x d n ++ [sumAt c x n / d] := by simp [filtTo, List.range_succ]
set_option maxHeartbeats 1000000 in
theorem filtered_c {c x : List Int} {v w : Value} {d : Int} (hc : Ints H c v) (hx : Ints H x w) (hcb : c.length ≤ 1000000000) (hxb : x.length ≤ 1000000000) :
    ACall Go.Proofs.Tryd.prog 56 [.agg ⟨[v, .int .i64 d]⟩, w] H (IntsRes H (filteredL c d x).1 (filteredL c d x).2) := by
  refine ACall.intsE ?_
  (refine a56 ?_; simp only [n56, List.replicate, yq, yr, yt, yu]; first | refine q1 ?_ | refine q2 ?_ | refine q6 ?_ | refine q7 ?_ | refine qh rfl ?_ | skip)
  have g0 : (H ++ [AObj.cells true 0 [v, .int .i64 d]])[H.length]? = some (.cells true 0 [v, .int .i64 d]) := at_new
  have xG : Ext H (H ++ [AObj.cells true 0 [v, .int .i64 d]]) := (Ext.refl H).app _
  ((repeat (first | refine ya (by (with_reducible constructor) <;> first | rfl | decide) ?_ | apply yb | refine yc rfl ?_ | ((first | apply yd | apply ye); simp (disch := first | exact yn | omega | (simp only [go_sem]; done) | (simp only [ln, ym]; omega) | (repeat' first | assumption | exact yo _ | refine yp ?_ _)) only [go_sem, hc.box2, n2_at g0]; with_reducible rfl))))
  generalize (H ++ [AObj.cells true 0 [v, .int .i64 d]] : AHeap) = G at g0 xG
  refine aops_call_to (checkFilter_c (hc.ext xG) hcb) ?_
  ((repeat (first | refine ya (by (with_reducible constructor) <;> first | rfl | decide) ?_ | apply yb | refine yc rfl ?_ | ((first | apply yd | apply ye); simp (disch := first | exact yn | omega | (simp only [go_sem]; done) | (simp only [ln, ym]; omega) | (repeat' first | assumption | exact yo _ | refine yp ?_ _)) only [go_sem]; with_reducible rfl))))
  refine aops_call_to (signalErr_c (hx.ext xG) hxb) ?_
  ((repeat (first | refine ya (by (with_reducible constructor) <;> first | rfl | decide) ?_ | apply yb | refine yc rfl ?_ | ((first | apply yd | apply ye); simp (disch := first | exact yn | omega | (simp only [go_sem]; done) | (simp only [ln, ym]; omega) | (repeat' first | assumption | exact yo _ | refine yp ?_ _)) only [go_sem]; with_reducible rfl))))
  refine aops_call_to (first_c (l := [_, _]) (Ints.last (l := [_, _]) 2) (by simp)) ?_
  have he : firstErr [filterErrL c d, signalErrL x] = (filteredL c d x).2 := by
    unfold firstErr filteredL
    by_cases h1 : filterErrL c d = 0
    · by_cases h2 : signalErrL x = 0 <;> simp [h1, h2]
    · simp [h1]
  rw [he]
  ((repeat (first | refine ya (by (with_reducible constructor) <;> first | rfl | decide) ?_ | apply yb | refine yc rfl ?_ | ((first | apply yd | apply ye); simp (disch := first | exact yn | omega | (simp only [go_sem]; done) | (simp only [ln, ym]; omega) | (repeat' first | assumption | exact yo _ | refine yp ?_ _)) only [go_sem]; with_reducible rfl))))
  have x2 : Ext G (G ++ [AObj.cells true 1 [.int .i64 (filterErrL c d), .int .i64 (signalErrL x)]]) := (Ext.refl G).app _
  generalize (G ++ [AObj.cells true 1 [.int .i64 (filterErrL c d), .int .i64 (signalErrL x)]] : AHeap) = G2 at x2
  have g2 := x2.cell g0
  have xH2 := xG.trans x2
  refine cond_p rfl (fun hne => ?_) (fun heq => ?_)
  · ((repeat (first | refine ya (by (with_reducible constructor) <;> first | rfl | decide) ?_ | apply yb | refine yc rfl ?_ | ((first | apply yd | apply ye); simp (disch := first | exact yn | omega | (simp only [go_sem]; done) | (simp only [ln, ym]; omega) | (repeat' first | assumption | exact yo _ | refine yp ?_ _)) only [go_sem]; with_reducible rfl))))
    have e1 : (filteredL c d x).1 = [] := by
      unfold filteredL at hne ⊢
      by_cases h1 : filterErrL c d = 0
      · by_cases h2 : signalErrL x = 0
        · rw [if_pos h1, if_pos h2] at hne; exact absurd rfl hne
        · rw [if_pos h1, if_neg h2]
      · rw [if_neg h1]
    rw [e1]
    exact fin_2 ⟨_, rfl, xH2, OwnI.nil _ _⟩
  have hboth : filterErrL c d = 0 ∧ signalErrL x = 0 := by
    have h := Decidable.not_not.1 heq
    unfold filteredL at h
    by_cases h1 : filterErrL c d = 0
    · by_cases h2 : signalErrL x = 0
      · exact ⟨h1, h2⟩
      · rw [if_pos h1, if_neg h2] at h; exact absurd h h2
    · rw [if_neg h1] at h; exact absurd h h1
  obtain ⟨f1, f2, f3, f4, f5⟩ := filterErr_ok hboth.1
  obtain ⟨s1, s2⟩ := signalErr_ok hboth.2
  have eo : filteredL c d x = (filtL c x d, 0) := by unfold filteredL; rw [if_pos hboth.1, if_pos hboth.2]
  rw [eo]
  have hx2 := hx.ext xH2
  ((repeat (first | refine ya (by (with_reducible constructor) <;> first | rfl | decide) ?_ | apply yb | refine yc rfl ?_ | ((first | apply yd | apply ye); simp (disch := first | exact yn | omega | (simp only [go_sem]; done) | (simp only [ln, ym]; omega) | (repeat' first | assumption | exact yo _ | refine yp ?_ _)) only [go_sem, hx2.len, hx2.idx, hx2.load]; with_reducible rfl))))
  refine awp_loop_n [false, true, true, false, false, false, false, true, false, false, false, false, false, false, false, false, false, false, false, false, false, false, true, true, false, false, false, false, false, false, false, false, false, false, false, false, false, false, false, false, false, false, false, false, false, false, false, false, false, false, false, false, false, false, false, false, false] x.length (fun n e H' => ∃ ov, e = [junk, w, .pointer (some ⟨H.length, 0, none⟩), junk, junk, junk, junk, ov, junk, junk, junk, junk, junk, junk, junk, junk, junk, junk, junk, junk, junk, junk, .int .i64 (x.length : Nat), .int .i64 n, junk, junk, junk, junk, junk, junk, junk, junk, junk, junk, junk, junk, junk, junk, junk, junk, junk, junk, junk, junk, junk, junk, junk, junk, junk, junk, junk, junk, junk, junk, junk, junk, junk] ∧ Ext G2 H' ∧ OwnI G2 H' (filtTo c x d n) ov) ?_ ?_
  · exact ⟨.slice none 0 0, by simp [forget], Ext.refl _, OwnI.nil _ _⟩
  rintro n e H1 hn ⟨ov, rfl, x1, ho⟩
  have xH := xH2.trans x1
  ((repeat (first | refine ya (by (with_reducible constructor) <;> first | rfl | decide) ?_ | apply yb | refine yc rfl ?_ | ((first | apply yd | apply ye); simp (disch := first | exact yn | omega | (simp only [go_sem]; done) | (simp only [ln, ym]; omega) | (repeat' first | assumption | exact yo _ | refine yp ?_ _)) only [go_sem]; with_reducible rfl))))
  refine cond_p rfl (fun hlt => ?_) (fun hge => ?_)
  rotate_left 1
  · obtain rfl : n = x.length := by omega
    ((repeat (first | refine ya (by (with_reducible constructor) <;> first | rfl | decide) ?_ | apply yb | refine yc rfl ?_ | ((first | apply yd | apply ye); simp (disch := first | exact yn | omega | (simp only [go_sem]; done) | (simp only [ln, ym]; omega) | (repeat' first | assumption | exact yo _ | refine yp ?_ _)) only [go_sem]; with_reducible rfl))))
    exact fin_2 ⟨ov, rfl, xH, ho.weaken xH2.len⟩
  have hn' : n < x.length := by omega
  have hc1 := hc.ext xH
  have hx1 := hx.ext xH
  have b0 := x1.cell g2
  ((repeat (first | refine ya (by (with_reducible constructor) <;> first | rfl | decide) ?_ | apply yb | refine yc rfl ?_ | ((first | apply yd | apply ye); simp (disch := first | exact yn | omega | (simp only [go_sem]; done) | (simp only [ln, ym]; omega) | (repeat' first | assumption | exact yo _ | refine yp ?_ _)) only [go_sem, hc1.len, hc1.idx, hc1.load, load_at b0]; with_reducible rfl))))
  refine awp_loop_n [false, true, true, false, false, false, false, true, true, true, false, false, false, false, false, false, false, false, false, false, false, false, true, true, false, false, false, true, true, true, false, false, false, false, false, false, false, false, false, false, false, false, false, false, false, false, false, false, false, false, false, false, false, false, false, false, false] c.length (fun j e H' => H1 = H' ∧ e = [junk, w, .pointer (some ⟨H.length, 0, none⟩), junk, junk, junk, junk, ov, .int .i64 n, .int .i64 (sumTo c x n j), junk, junk, junk, junk, junk, junk, junk, junk, junk, junk, junk, junk, .int .i64 (x.length : Nat), .int .i64 n, junk, junk, junk, v, .int .i64 (c.length : Nat), .int .i64 j, junk, junk, junk, junk, junk, junk, junk, junk, junk, junk, junk, junk, junk, junk, junk, junk, junk, junk, junk, junk, junk, junk, junk, junk, junk, junk, junk]) ?_ ?_
  · exact ⟨rfl, by simp [forget, sumTo]⟩
  rintro j e H' hj ⟨rfl, rfl⟩
  have b1 := sumTo_bound (n := n) (a := 1000) (b := 32767) f3 s2 j
  ((repeat (first | refine ya (by (with_reducible constructor) <;> first | rfl | decide) ?_ | apply yb | refine yc rfl ?_ | ((first | apply yd | apply ye); simp (disch := first | exact yn | omega | (simp only [go_sem]; done) | (simp only [ln, ym]; omega) | (repeat' first | assumption | exact yo _ | refine yp ?_ _)) only [go_sem]; with_reducible rfl))))
  refine cond_p rfl (fun hlt2 => ?_) (fun hge2 => ?_)
  · have hj' : j < c.length := by omega
    ((repeat (first | refine ya (by (with_reducible constructor) <;> first | rfl | decide) ?_ | apply yb | refine yc rfl ?_ | ((first | apply yd | apply ye); simp (disch := first | exact yn | omega | (simp only [go_sem]; done) | (simp only [ln, ym]; omega) | (repeat' first | assumption | exact yo _ | refine yp ?_ _)) only [go_sem, hc1.len, hc1.idx, hc1.load]; with_reducible rfl))))
    refine cond_p rfl (fun hle => ?_) (fun hgt => ?_)
    · have hle' : j ≤ n := by omega
      have b2 := mul_abs (x := c.getD j 0) (y := x.getD (n - j) 0) (a := 1000) (b := 32767) (f3 j) (s2 (n - j))
      have e1 : ((n : Int) - (j : Int)).toNat = n - j := by omega
      have es : sumTo c x n (j + 1) = sumTo c x n j + c.getD j 0 * x.getD (n - j) 0 := by rw [sumTo, if_pos hle']
      ((repeat (first | refine ya (by (with_reducible constructor) <;> first | rfl | decide) ?_ | apply yb | refine yc rfl ?_ | ((first | apply yd | apply ye); simp (disch := first | exact yn | omega | (simp only [go_sem]; done) | (simp only [ln, ym]; omega) | (repeat' first | assumption | exact yo _ | refine yp ?_ _)) only [go_sem, hx1.len, hx1.idx, hx1.load, e1]; with_reducible rfl))))
      exact ⟨by omega, rfl, by rw [es]; simp [forget]⟩
    · have es : sumTo c x n (j + 1) = sumTo c x n j := by rw [sumTo, if_neg (by omega), Int.add_zero]
      ((repeat (first | refine ya (by (with_reducible constructor) <;> first | rfl | decide) ?_ | apply yb | refine yc rfl ?_ | ((first | apply yd | apply ye); simp (disch := first | exact yn | omega | (simp only [go_sem]; done) | (simp only [ln, ym]; omega) | (repeat' first | assumption | exact yo _ | refine yp ?_ _)) only [go_sem]; with_reducible rfl))))
      exact ⟨by omega, rfl, by rw [es]; simp [forget]⟩
  · obtain rfl : j = c.length := by omega
    have hpush := ho.push (by rw [filtTo_len]; omega) (sumAt c x n / d)
    ((repeat (first | refine ya (by (with_reducible constructor) <;> first | rfl | decide) ?_ | apply yb | refine yc rfl ?_ | ((first | apply yd | apply ye); simp (disch := first | exact yn | omega | (simp only [go_sem]; done) | (simp only [ln, ym]; omega) | (repeat' first | assumption | exact yo _ | refine yp ?_ _)) only [go_sem, load_at b0]; with_reducible rfl))))
    refine aops_call_to (rfloor_c _ _ (by omega) (by omega)) ?_
    show AOps _ _ _ (Env.put _ _ (.int .i64 (sumAt c x n / d))) _
    ((repeat (first | refine ya (by (with_reducible constructor) <;> first | rfl | decide) ?_ | apply yb | refine yc rfl ?_ | ((first | apply yd | apply ye); simp (disch := first | exact yn | omega | (simp only [go_sem]; done) | (simp only [ln, ym]; omega) | (repeat' first | assumption | exact yo _ | refine yp ?_ _)) only [go_sem, hpush]; with_reducible rfl))))
    refine ⟨by omega, pushV H1 (filtTo c x d n).length, by simp [forget], ho.ext x1 _, ?_⟩
    rw [filtTo_succ]
    exact ho.pushed x1 _
end
end Go.Lq

namespace Go.Lq
open Go
open Go.Proofs

def posErrQ (x : List Int) (q : Int) : Int := if decide (0 ≤ q ∧ q ≤ 64 * ((x.length : Int) - 1)) = true then 0 else 2
def valErrL (deg : Int) (x : List Int) (q : Int) : Int := firstErr [degErrL deg, signalErrL x, posErrQ x q]
def valNumL (deg : Int) (x : List Int) (q : Int) : Int := if valErrL deg x q = 0 then valueL deg x q else 0
def valDenL (deg : Int) (x : List Int) (q : Int) : Int := if valErrL deg x q = 0 then denL deg else 0
theorem valErr_ok {deg : Int} {x : List Int} {q : Int} (h : valErrL deg x q = 0) : (deg = 1 ∨ deg = 3) ∧ signalErrL x = 0 ∧ 0 ≤ q ∧ q ≤ 64 * ((x.length : Int) - 1) := by
  unfold valErrL at h
  by_cases h1 : degErrL deg = 0
  · by_cases h2 : signalErrL x = 0
    · refine ⟨degErr_ok h1, h2, ?_⟩
      by_cases h3 : 0 ≤ q ∧ q ≤ 64 * ((x.length : Int) - 1)
      · exact h3
      · simp [firstErr, h1, h2, posErrQ, h3] at h
    · simp [firstErr, h1, h2] at h
  · simp [firstErr, h1] at h
theorem closed_iii (a b c : Int) : Closed (.tuple #[.int .i64 a, .int .i64 b, .int .i64 c]) := .tuple _ (closed_list (l := [.int .i64 a, .int .i64 b, .int .i64 c]) fun v hv => by
  simp only [List.mem_cons, List.not_mem_nil, or_false] at hv
  rcases hv with rfl | rfl | rfl <;> exact .int _ _)

section
variable {H : AHeap}
theorem valueAt_c {deg q : Int} {x : List Int} {v : Value} (hx : Ext H0 H) (hX : Ints H x v) (hxl : x.length ≤ 1000000000) : ACall Go.Proofs.Tryd.prog 37 [.int .i64 deg, v, .int .i64 q] H fun v H' =>
    v = .tuple #[.int .i64 (valNumL deg x q), .int .i64 (valDenL deg x q), .int .i64 (valErrL deg x q)] ∧ H' = H := by
  refine ACall.drop (closed_iii _ _ _) ?_
  (refine a37 ?_; simp only [n37, List.replicate, yq, yr, yt, yu]; first | refine q1 ?_ | refine q2 ?_ | refine q6 ?_ | refine q7 ?_ | refine qh rfl ?_ | skip)
  ((repeat (first | refine ya (by (with_reducible constructor) <;> first | rfl | decide) ?_ | apply yb | refine yc rfl ?_ | ((first | apply yd | apply ye); simp (disch := first | exact yn | omega | (simp only [go_sem]; done) | (simp only [ln, ym]; omega) | (repeat' first | assumption | exact yo _ | refine yp ?_ _)) only [go_sem]; with_reducible rfl))))
  refine aops_call_to (degreeErr_c _) ?_
  ((repeat (first | refine ya (by (with_reducible constructor) <;> first | rfl | decide) ?_ | apply yb | refine yc rfl ?_ | ((first | apply yd | apply ye); simp (disch := first | exact yn | omega | (simp only [go_sem]; done) | (simp only [ln, ym]; omega) | (repeat' first | assumption | exact yo _ | refine yp ?_ _)) only [go_sem]; with_reducible rfl))))
  refine aops_call_to (signalErr_c hX hxl) ?_
  ((repeat (first | refine ya (by (with_reducible constructor) <;> first | rfl | decide) ?_ | apply yb | refine yc rfl ?_ | ((first | apply yd | apply ye); simp (disch := first | exact yn | omega | (simp only [go_sem]; done) | (simp only [ln, ym]; omega) | (repeat' first | assumption | exact yo _ | refine yp ?_ _)) only [go_sem, hX.len, hX.idx, hX.load]; with_reducible rfl))))
  refine aops_call_to (within_c _ _ _) ?_
  ((repeat (first | refine ya (by (with_reducible constructor) <;> first | rfl | decide) ?_ | apply yb | refine yc rfl ?_ | ((first | apply yd | apply ye); simp (disch := first | exact yn | omega | (simp only [go_sem]; done) | (simp only [ln, ym]; omega) | (repeat' first | assumption | exact yo _ | refine yp ?_ _)) only [go_sem]; with_reducible rfl))))
  refine aops_call_to (unless_c _ _) ?_
  ((repeat (first | refine ya (by (with_reducible constructor) <;> first | rfl | decide) ?_ | apply yb | refine yc rfl ?_ | ((first | apply yd | apply ye); simp (disch := first | exact yn | omega | (simp only [go_sem]; done) | (simp only [ln, ym]; omega) | (repeat' first | assumption | exact yo _ | refine yp ?_ _)) only [go_sem]; with_reducible rfl))))
  refine aops_call_to (first_c (l := [_, _, _]) (Ints.last (l := [_, _, _]) 3) (by simp)) ?_
  have he : firstErr [degErrL deg, signalErrL x, (if decide (0 ≤ q ∧ q ≤ 64 * ((x.length : Int) - 1)) = true then 0 else 2)] = valErrL deg x q := rfl
  rw [he]
  have xG := (Ext.refl H).app [AObj.cells true 1 [.int .i64 (degErrL deg), .int .i64 (signalErrL x), .int .i64 (if decide (0 ≤ q ∧ q ≤ 64 * ((x.length : Int) - 1)) = true then 0 else 2)]]
  generalize (H ++ [AObj.cells true 1 [.int .i64 (degErrL deg), .int .i64 (signalErrL x), .int .i64 (if decide (0 ≤ q ∧ q ≤ 64 * ((x.length : Int) - 1)) = true then 0 else 2)]] : AHeap) = G at xG
  by_cases hz : valErrL deg x q = 0
  rotate_left 1
  · ((repeat (first | refine ya (by (with_reducible constructor) <;> first | rfl | decide) ?_ | apply yb | refine yc rfl ?_ | ((first | apply yd | apply ye); simp (disch := first | exact yn | omega | (simp only [go_sem]; done) | (simp only [ln, ym]; omega) | (repeat' first | assumption | exact yo _ | refine yp ?_ _)) only [go_sem, dec_t (show valErrL deg x q ≠ 0 from hz)]; with_reducible rfl))))
    refine cond_t rfl ?_
    ((repeat (first | refine ya (by (with_reducible constructor) <;> first | rfl | decide) ?_ | apply yb | refine yc rfl ?_ | ((first | apply yd | apply ye); simp (disch := first | exact yn | omega | (simp only [go_sem]; done) | (simp only [ln, ym]; omega) | (repeat' first | assumption | exact yo _ | refine yp ?_ _)) only [go_sem]; with_reducible rfl))))
    exact fin_3 ⟨by unfold valNumL valDenL; rw [if_neg hz, if_neg hz]; rfl, xG⟩
  ((repeat (first | refine ya (by (with_reducible constructor) <;> first | rfl | decide) ?_ | apply yb | refine yc rfl ?_ | ((first | apply yd | apply ye); simp (disch := first | exact yn | omega | (simp only [go_sem]; done) | (simp only [ln, ym]; omega) | (repeat' first | assumption | exact yo _ | refine yp ?_ _)) only [go_sem, hz]; with_reducible rfl))))
  refine cond_f rfl ?_
  obtain ⟨hd, hs, hq⟩ := valErr_ok hz
  obtain ⟨s1, s2⟩ := signalErr_ok hs
  have hx2 := hx.trans xG
  have en : valNumL deg x q = valueL deg x q := by unfold valNumL; rw [if_pos hz]
  have ed : valDenL deg x q = denL deg := by unfold valDenL; rw [if_pos hz]
  rw [en, ed]
  (repeat (first | refine ya (by (with_reducible constructor) <;> first | rfl | decide) ?_ | (apply yd; simp (disch := first | exact yn | omega | (simp only [go_sem]; done) | (simp only [ln, ym]; omega) | (repeat' first | assumption | exact yo _ | refine yp ?_ _)) only [go_sem, kern_idx hd, kern_load hx2 hd, store_kern]; with_reducible rfl)))
  have g0 : (G ++ [AObj.cells true 0 (kern deg)])[G.length]? = some (.cells true 0 (kern deg)) := at_new
  have xG2 := xG.app [AObj.cells true 0 (kern deg)]
  generalize (G ++ [AObj.cells true 0 (kern deg)] : AHeap) = G2 at g0 xG2
  ((repeat (first | refine ya (by (with_reducible constructor) <;> first | rfl | decide) ?_ | apply yb | refine yc rfl ?_ | ((first | apply yd | apply ye); simp (disch := first | exact yn | omega | (simp only [go_sem]; done) | (simp only [ln, ym]; omega) | (repeat' first | assumption | exact yo _ | refine yp ?_ _)) only [go_sem, kern_all g0]; with_reducible rfl))))
  refine adraw_call (N := []) (firstD (value_c hd (hX.ext xG2) s1 s2 hq)) ?_
  rw [List.append_nil]
  ((repeat (first | refine ya (by (with_reducible constructor) <;> first | rfl | decide) ?_ | apply yb | refine yc rfl ?_ | ((first | apply yd | apply ye); simp (disch := first | exact yn | omega | (simp only [go_sem]; done) | (simp only [ln, ym]; omega) | (repeat' first | assumption | exact yo _ | refine yp ?_ _)) only [go_sem, kern_den g0]; with_reducible rfl))))
  exact fin_3 ⟨by rw [hz]; rfl, xG2⟩
end
end Go.Lq

namespace Go.Lq
open Go
open Go.Proofs

theorem signal_c {H : AHeap} : ACall Go.Proofs.Tryd.prog 86 [] H fun v H' => v = .slice (some ⟨H.length, 0, none⟩) 4 4 ∧ H' = H ++ [.cells true 1 (([0, 10, 20, 40] : List Int).map (.int .i64))] := by
  (refine a86 ?_; simp only [n86, List.replicate, yq, yr, yt, yu]; first | refine q1 ?_ | refine q2 ?_ | refine q6 ?_ | refine q7 ?_ | refine qh rfl ?_ | skip)
  ((repeat (first | refine ya (by (with_reducible constructor) <;> first | rfl | decide) ?_ | apply yb | refine yc rfl ?_ | ((first | apply yd | apply ye); simp (disch := first | exact yn | omega | (simp only [go_sem]; done) | (simp only [ln, ym]; omega) | (repeat' first | assumption | exact yo _ | refine yp ?_ _)) only [go_sem]; with_reducible rfl))))
  exact fin_1 ⟨rfl, rfl⟩
theorem topAwake_c {H : AHeap} (hx : Ext H0 H) : ACall Go.Proofs.Tryd.prog 47 [] H fun v H' => v = .bool true ∧ H' = H := by
  refine ACall.drop (.bool _) ?_
  (refine a47 ?_; simp only [n47, List.replicate, yq, yr, yt, yu]; first | refine q1 ?_ | refine q2 ?_ | refine q6 ?_ | refine q7 ?_ | refine qh rfl ?_ | skip)
  ((repeat (first | refine ya (by (with_reducible constructor) <;> first | rfl | decide) ?_ | apply yb | refine yc rfl ?_ | ((first | apply yd | apply ye); simp (disch := first | exact yn | omega | (simp only [go_sem]; done) | (simp only [ln, ym]; omega) | (repeat' first | assumption | exact yo _ | refine yp ?_ _)) only [go_sem]; with_reducible rfl))))
  refine aops_call_to signal_c ?_
  have hX : Ints (H ++ [.cells true 1 (([0, 10, 20, 40] : List Int).map (.int .i64))]) [0, 10, 20, 40] (.slice (some ⟨H.length, 0, none⟩) 4 4) := Ints.last (l := [0, 10, 20, 40]) 4
  have xG : Ext H (H ++ [AObj.cells true 1 (([0, 10, 20, 40] : List Int).map (.int .i64))]) := (Ext.refl H).app _
  generalize (H ++ [AObj.cells true 1 (([0, 10, 20, 40] : List Int).map (.int .i64))] : AHeap) = G at hX xG
  ((repeat (first | refine ya (by (with_reducible constructor) <;> first | rfl | decide) ?_ | apply yb | refine yc rfl ?_ | ((first | apply yd | apply ye); simp (disch := first | exact yn | omega | (simp only [go_sem]; done) | (simp only [ln, ym]; omega) | (repeat' first | assumption | exact yo _ | refine yp ?_ _)) only [go_sem]; with_reducible rfl))))
  refine aops_call_to (valueAt_c (deg := 3) (q := 96) (hx.trans xG) hX (by decide)) ?_
  rw [show valNumL 3 [0, 10, 20, 40] 96 = 22609920 by decide, show valDenL 3 [0, 10, 20, 40] 96 = 1572864 by decide, show valErrL 3 [0, 10, 20, 40] 96 = 0 by decide]
  ((repeat (first | refine ya (by (with_reducible constructor) <;> first | rfl | decide) ?_ | apply yb | refine yc rfl ?_ | ((first | apply yd | apply ye); simp (disch := first | exact yn | omega | (simp only [go_sem]; done) | (simp only [ln, ym]; omega) | (repeat' first | assumption | exact yo _ | refine yp ?_ _)) only [go_sem]; with_reducible rfl))))
  refine aops_call_to (stableBound_c 1 0 2 100) ?_
  rw [show stableL 1 0 2 100 = 200 by decide, show stableErrL 1 0 2 100 = 0 by decide]
  ((repeat (first | refine ya (by (with_reducible constructor) <;> first | rfl | decide) ?_ | apply yb | refine yc rfl ?_ | ((first | apply yd | apply ye); simp (disch := first | exact yn | omega | (simp only [go_sem]; done) | (simp only [ln, ym]; omega) | (repeat' first | assumption | exact yo _ | refine yp ?_ _)) only [go_sem]; with_reducible rfl))))
  exact fin_1 ⟨rfl, xG⟩
end Go.Lq

namespace Go.Lq
open Go

theorem sumTo_late {c l : List Int} {n : Nat} : ∀ j : Nat, sumTo c (0 :: l) (n + 1) j = sumTo c l n j
  | 0 => rfl
  | j + 1 => by
    unfold sumTo
    rw [sumTo_late j]
    congr 1
    by_cases h : j ≤ n
    · rw [if_pos (by omega), if_pos h, show n + 1 - j = (n - j) + 1 by omega, List.getD_cons_succ]
    · rw [if_neg h]
      by_cases h1 : j ≤ n + 1
      · rw [if_pos h1, show n + 1 - j = 0 by omega, List.getD_cons_zero, Int.mul_zero]
      · rw [if_neg h1]
theorem sumTo_first {c l : List Int} : ∀ j : Nat, sumTo c (0 :: l) 0 j = 0
  | 0 => rfl
  | j + 1 => by
    unfold sumTo
    rw [sumTo_first j]
    by_cases h : j ≤ 0
    · rw [if_pos h, Nat.zero_sub, List.getD_cons_zero, Int.mul_zero]; rfl
    · rw [if_neg h]; rfl
theorem getD_take {l : List Int} {m i : Nat} (h : i < m) : (l.take m).getD i 0 = l.getD i 0 := by
  rw [List.getD_eq_getElem?_getD, List.getD_eq_getElem?_getD, List.getElem?_take, if_pos h]
theorem sumTo_take {c x : List Int} {m n : Nat} (h : n < m) : ∀ j : Nat, sumTo c (x.take m) n j = sumTo c x n j
  | 0 => rfl
  | j + 1 => by
    unfold sumTo
    rw [sumTo_take h j]
    by_cases h1 : j ≤ n
    · rw [if_pos h1, if_pos h1, getD_take (by omega)]
    · rw [if_neg h1, if_neg h1]
theorem filtL_at {c x : List Int} {d : Int} {n : Nat} (h : n < x.length) : (filtL c x d).getD n 0 = sumAt c x n / d := by
  unfold filtL
  rw [List.getD_eq_getElem?_getD, List.getElem?_map, List.getElem?_range h]; rfl
def lateL (x : List Int) : List Int := 0 :: x.take (x.length - 1)
theorem lateL_len {x : List Int} (h : 0 < x.length) : (lateL x).length = x.length := by
  unfold lateL; rw [List.length_cons, List.length_take]; omega
theorem late_first {c x : List Int} {d : Int} (h : 0 < x.length) : (filtL c (lateL x) d).getD 0 0 = 0 := by
  rw [filtL_at (by rw [lateL_len h]; exact h)]
  unfold sumAt lateL
  rw [sumTo_first, Int.zero_ediv]
theorem late_next {c x : List Int} {d : Int} {n : Nat} (h : n + 1 < x.length) : (filtL c (lateL x) d).getD (n + 1) 0 = (filtL c x d).getD n 0 := by
  rw [filtL_at (by rw [lateL_len (by omega)]; exact h), filtL_at (by omega)]
  unfold sumAt lateL
  rw [sumTo_late, sumTo_take (by omega)]
theorem late_in {x : List Int} (h : ∀ j : Nat, -32767 ≤ x.getD j 0 ∧ x.getD j 0 ≤ 32767) (j : Nat) : -32767 ≤ (lateL x).getD j 0 ∧ (lateL x).getD j 0 ≤ 32767 := by
  unfold lateL
  cases j with
  | zero => rw [List.getD_cons_zero]; omega
  | succ j =>
    rw [List.getD_cons_succ]
    by_cases hj : j < x.length - 1
    · rw [getD_take hj]; exact h j
    · rw [List.getD_eq_getElem?_getD, List.getElem?_eq_none (by rw [List.length_take]; omega)]
      show (-32767 : Int) ≤ 0 ∧ (0 : Int) ≤ 32767
      omega
theorem late_app {K : AHeap} {l : List Int} {w : Value} (hl : Ints (K ++ [.cells true 1 [.int .i64 0]]) l w) (hb : l.length ≤ 1000) :
    ∃ lv J, appendA 1 8 (K ++ [.cells true 1 [.int .i64 0]]) (.slice (some ⟨K.length, 0, none⟩) 1 1) w = some (lv, J) ∧ Ints J (0 :: l) lv ∧ Ext K J := by
  by_cases h0 : l.length = 0
  · obtain rfl : l = [] := List.length_eq_zero_iff.1 h0
    refine ⟨.slice (some ⟨K.length, 0, none⟩) 1 1, K ++ [.cells true 1 [.int .i64 0]], ?_, Ints.last (l := [0]) 1, (Ext.refl K).app _⟩
    rcases hl.2 with ⟨rfl, _⟩ | ⟨id, off, c, rfl, _⟩
    · simp [appendA]
    · simp [appendA]
  · have ho : Own K (K ++ [AObj.cells true 1 [.int .i64 0]]) 1 1 [.int .i64 0] (.slice (some ⟨K.length, 0, none⟩) 1 1) := ⟨rfl, .inr ⟨K.length, rfl, Nat.le_refl _, by omega, by simp⟩⟩
    have h1 := Own.append (bytes := 8) ho hl (by omega) (isAtom_ints l) (roomOk_of (by omega) (by omega))
    refine ⟨_, _, h1, ?_, Own.ext ho ((Ext.refl K).app _)⟩
    have h2 := (Own.appended ho (m := l.length) (cs := l.map (.int .i64)) (by simp) (by omega) (by simp)).sl
    unfold Ints
    rw [Nat.add_comm] at h2
    simpa [Nat.add_comm] using h2
end Go.Lq

namespace Go.Lq

def nodeE (p n : Int × Int) : Int := firstErr [(if (0 ≤ n.1 ∧ n.1 ≤ 1000000) ∧ (0 ≤ n.2 ∧ n.2 ≤ 1000000000000) then 0 else 2), (if p.1 < n.1 ∧ p.2 < n.2 then 0 else 9)]
def ckGo (p : Int × Int) (i : Nat) : List (Int × Int) → Int × Int
  | [] => (0, 0)
  | n :: r => if nodeE p n ≠ 0 then (i, nodeE p n) else ckGo n (i + 1) r
def ckMap (l : List (Int × Int)) : Int × Int := if l.length < 2 then (0, 10) else if 20 < l.length then (0, 8) else ckGo (-1, -1) 0 l
def mapErrL (l : List (Int × Int)) : Int := (ckMap l).2
def prevAt (l : List (Int × Int)) (i : Nat) : Int × Int := if i = 0 then (-1, -1) else l.getD (i - 1) (0, 0)

theorem drop_pair {l : List (Int × Int)} {i : Nat} (h : i < l.length) : l.drop i = l.getD i (0, 0) :: l.drop (i + 1) := by
  rw [List.drop_eq_getElem_cons h, List.getD_eq_getElem?_getD, List.getElem?_eq_getElem h]; rfl
theorem prevAt_succ {l : List (Int × Int)} {i : Nat} : prevAt l (i + 1) = l.getD i (0, 0) := by unfold prevAt; rw [if_neg (by omega), Nat.add_sub_cancel]
theorem ckGo_at {l : List (Int × Int)} {i : Nat} (h : i < l.length) : ckGo (prevAt l i) i (l.drop i) = if nodeE (prevAt l i) (l.getD i (0, 0)) ≠ 0 then ((i : Int), nodeE (prevAt l i) (l.getD i (0, 0))) else ckGo (prevAt l (i + 1)) (i + 1) (l.drop (i + 1)) := by
  rw [drop_pair h, prevAt_succ]; rfl
theorem ckGo_end {p : Int × Int} {l : List (Int × Int)} {i : Nat} : ckGo p i (l.drop l.length) = (0, 0) := by rw [List.drop_length]; rfl
theorem nodeE_ok {p n : Int × Int} (h : nodeE p n = 0) : ((0 ≤ n.1 ∧ n.1 ≤ 1000000) ∧ (0 ≤ n.2 ∧ n.2 ≤ 1000000000000)) ∧ p.1 < n.1 ∧ p.2 < n.2 := by
  unfold nodeE firstErr at h
  by_cases h1 : (0 ≤ n.1 ∧ n.1 ≤ 1000000) ∧ (0 ≤ n.2 ∧ n.2 ≤ 1000000000000)
  · refine ⟨h1, ?_⟩
    by_cases h2 : p.1 < n.1 ∧ p.2 < n.2
    · exact h2
    · rw [if_pos h1, if_neg h2] at h; simp at h
  · rw [if_neg h1] at h; simp at h
theorem nodeE_z {p n : Int × Int} (h : (0 ≤ n.1 ∧ n.1 ≤ 1000000) ∧ (0 ≤ n.2 ∧ n.2 ≤ 1000000000000)) (h2 : p.1 < n.1 ∧ p.2 < n.2) : nodeE p n = 0 := by unfold nodeE firstErr; rw [if_pos h, if_pos h2]; simp
theorem ckGo_from {l : List (Int × Int)} : ∀ {i : Nat}, (∀ j, j < i → nodeE (prevAt l j) (l.getD j (0, 0)) = 0) → i ≤ l.length → ckGo (-1, -1) 0 l = ckGo (prevAt l i) i (l.drop i)
  | 0, _, _ => rfl
  | i + 1, h, hi => by
    rw [ckGo_from (i := i) (fun j hj => h j (by omega)) (by omega), ckGo_at (by omega), if_neg (by rw [h i (by omega)]; simp)]
theorem ckGo_ok {l : List (Int × Int)} : ∀ {k i : Nat}, i + k = l.length → (ckGo (prevAt l i) i (l.drop i)).2 = 0 → ∀ j, i ≤ j → j < l.length → nodeE (prevAt l j) (l.getD j (0, 0)) = 0
  | 0, i, hk, _, j, h1, h2 => by omega
  | k + 1, i, hk, h, j, h1, h2 => by
    rw [ckGo_at (by omega)] at h
    by_cases he : nodeE (prevAt l i) (l.getD i (0, 0)) = 0
    · rw [if_neg (by rw [he]; simp)] at h
      by_cases hj : j = i
      · subst hj; exact he
      · exact ckGo_ok (k := k) (i := i + 1) (by omega) h j (by omega) h2
    · rw [if_pos he] at h; exact absurd h he

structure MapOk (l : List (Int × Int)) : Prop where
  lo : 2 ≤ l.length
  hi : l.length ≤ 20
  pos : ∀ i, i < l.length → 0 ≤ (l.getD i (0, 0)).1 ∧ (l.getD i (0, 0)).1 ≤ 1000000
  time : ∀ i, i < l.length → 0 ≤ (l.getD i (0, 0)).2 ∧ (l.getD i (0, 0)).2 ≤ 1000000000000
  posUp : ∀ i, i + 1 < l.length → (l.getD i (0, 0)).1 < (l.getD (i + 1) (0, 0)).1
  timeUp : ∀ i, i + 1 < l.length → (l.getD i (0, 0)).2 < (l.getD (i + 1) (0, 0)).2
theorem mapErr_ok {l : List (Int × Int)} (h : mapErrL l = 0) : MapOk l := by
  unfold mapErrL ckMap at h
  by_cases h1 : l.length < 2
  · rw [if_pos h1] at h; simp at h
  by_cases h2 : 20 < l.length
  · rw [if_neg h1, if_pos h2] at h; simp at h
  rw [if_neg h1, if_neg h2] at h
  have hk := fun j hj => nodeE_ok (ckGo_ok (l := l) (k := l.length) (i := 0) (by omega) h j (Nat.zero_le _) hj)
  refine ⟨by omega, by omega, fun i hi => (hk i hi).1.1, fun i hi => (hk i hi).1.2, fun i hi => ?_, fun i hi => ?_⟩
  · have := (hk (i + 1) hi).2.1; rwa [prevAt_succ] at this
  · have := (hk (i + 1) hi).2.2; rwa [prevAt_succ] at this
theorem MapOk.err {l : List (Int × Int)} (h : MapOk l) : mapErrL l = 0 := by
  unfold mapErrL ckMap
  have := h.lo
  have := h.hi
  rw [if_neg (by omega), if_neg (by omega), ckGo_from (i := l.length) (fun j hj => ?_) (Nat.le_refl _), ckGo_end]
  refine nodeE_z ⟨h.pos j hj, h.time j hj⟩ ?_
  cases j with
  | zero =>
    have h1 := h.pos 0 hj; have h2 := h.time 0 hj
    exact ⟨show (-1 : Int) < (l.getD 0 (0, 0)).1 by omega, show (-1 : Int) < (l.getD 0 (0, 0)).2 by omega⟩
  | succ j => rw [prevAt_succ]; exact ⟨h.posUp j hj, h.timeUp j hj⟩
theorem MapOk.timeLt {l : List (Int × Int)} (h : MapOk l) : ∀ {k i : Nat}, i + k + 1 < l.length → (l.getD i (0, 0)).2 < (l.getD (i + k + 1) (0, 0)).2
  | 0, i, hi => h.timeUp i hi
  | k + 1, i, hi => Int.lt_trans (h.timeLt (k := k) (by omega)) (h.timeUp (i + k + 1) hi)
theorem MapOk.timeLe {l : List (Int × Int)} (h : MapOk l) {i j : Nat} (hij : i ≤ j) (hj : j < l.length) : (l.getD i (0, 0)).2 ≤ (l.getD j (0, 0)).2 := by
  by_cases e : i = j
  · subst e; omega
  · have := h.timeLt (k := j - i - 1) (i := i) (by omega)
    rw [show i + (j - i - 1) + 1 = j by omega] at this; omega

def pieceOf (l : List (Int × Int)) (i : Nat) : (Int × Int) × (Int × Int) := (l.getD i (0, 0), l.getD (i + 1) (0, 0))
def findP (p : (Int × Int) × (Int × Int) → Bool) (l : List (Int × Int)) (i : Nat) : Nat → Option Nat
  | 0 => none
  | k + 1 => if p (pieceOf l i) = true then some i else findP p l (i + 1) k
def inTime (t : Int) (p : (Int × Int) × (Int × Int)) : Bool := decide (p.1.2 ≤ t ∧ t ≤ p.2.2)
theorem findP_some {p : (Int × Int) × (Int × Int) → Bool} {l : List (Int × Int)} : ∀ {k i j : Nat}, findP p l i k = some j → i ≤ j ∧ j < i + k ∧ p (pieceOf l j) = true ∧ ∀ m, i ≤ m → m < j → p (pieceOf l m) = false
  | 0, i, j, h => by simp [findP] at h
  | k + 1, i, j, h => by
    unfold findP at h
    by_cases hp : p (pieceOf l i) = true
    · rw [if_pos hp] at h
      obtain rfl := Option.some.inj h
      exact ⟨Nat.le_refl _, by omega, hp, fun m h1 h2 => by omega⟩
    · rw [if_neg hp] at h
      obtain ⟨h1, h2, h3, h4⟩ := findP_some h
      refine ⟨by omega, by omega, h3, fun m h5 h6 => ?_⟩
      by_cases e : m = i
      · subst e; simpa using hp
      · exact h4 m (by omega) h6
def atTime (l : List (Int × Int)) (t : Int) (i : Nat) : Nat → Nat
  | 0 => i
  | k + 1 => if (l.getD (i + 1) (0, 0)).2 < t then atTime l t (i + 1) k else i
end Go.Lq

namespace Go.Lq

def cv (f g : Nat → Int) : Nat → Int
  | 0 => f 0 * g 0
  | n + 1 => f 0 * g (n + 1) + cv (fun k => f (k + 1)) g n

end Go.Lq


namespace Go.Lq
open Go
open Go.Proofs

theorem store_b1 {H : AHeap} {id e : Nat} {x y : Value} (h : H[id]? = some (.cells true e [x])) (ha : isAtom y = true) (hc : y.cells = ⟨[y]⟩) : storeR 1 (.pointer (some ⟨id, 0, none⟩)) y H = some (undef, H.set id (.cells true e [y])) := by
  have e2 : ([y] : List Value).all isAtom = true := by simp [ha]
  have e3 : setCells [x] 0 [y] = [y] := rfl
  simp only [storeR, hc, List.size_toArray, storeAt, h, e2, e3, and_true, List.length_cons, List.length_nil]
  rfl
theorem store_b2 {H : AHeap} {id e : Nat} {x y : Value} {a b : Int} (h : H[id]? = some (.cells true e [x, y])) : storeR 2 (.pointer (some ⟨id, 0, none⟩)) (.agg ⟨[.int .i64 a, .int .i64 b]⟩) H = some (undef, H.set id (.cells true e [.int .i64 a, .int .i64 b])) := store_at2v h rfl rfl
/-! ### A slice in a box, grown in a range over a function -/
theorem OwnI.aside {H0 H : AHeap} {l : List Int} {v : Value} (h : OwnI H0 H l v) {j : Nat} (hj : j < H0.length) : l.length = 0 ∨ idOf v ≠ j := by
  rcases h.2 with ⟨rfl, h0⟩ | ⟨id, rfl, h1, _, _⟩
  · exact .inl h0
  · exact .inr (by show id ≠ j; omega)
theorem OwnI.pushedL {H0 H : AHeap} {l : List Int} {v : Value} (h : OwnI H0 H l v) (hx : H0.length ≤ H.length) (x : Int) : OwnI H0 (pushH H v l x) (l ++ [x]) (pushV H l.length) := by
  have := Own.appended (h.app [.cells true 1 [.int .i64 x]]) (m := 1) (cs := [.int .i64 x]) rfl (by omega) (by simp; omega)
  unfold OwnI
  simpa [pushV, pushH] using this
theorem Keeps.push {k : Nat} {G G' H : AHeap} {l : List Int} {v : Value} (h : Keeps k G H) (ho : OwnI G' H l v) (hg : G.length ≤ G'.length) (x : Int) : Keeps k G (pushH H v l x) := by
  refine ⟨by rw [pushH_len]; have := h.1; omega, fun i hi hk => ?_⟩
  have hl : i < H.length := by have := h.1; omega
  unfold pushH
  rw [appH_at (by simp; omega) (ho.nil_or (ho.aside (by omega))), List.getElem?_append_left hl]
  exact h.2 i hi hk
structure BoxI (k : Nat) (G : AHeap) (l : List Int) (v : Value) (H : AHeap) : Prop where
  keeps : Keeps k G H
  box : H[k]? = some (.cells true 0 [v])
  own : OwnI (G ++ [.dead]) H l v
theorem BoxI.set {k : Nat} {G H : AHeap} {l : List Int} {v : Value} (h : BoxI k G l v H) (hk : k < G.length) (c : AObj) : BoxI k G l v (H.set G.length c) :=
  ⟨h.keeps.set (.inr (Nat.le_refl _)) _, by rw [List.getElem?_set_ne (by omega)]; exact h.box, h.own.set_ne (h.own.aside (by simp)) _⟩
theorem BoxI.app {k : Nat} {G H : AHeap} {l : List Int} {v : Value} (h : BoxI k G l v H) (N : AHeap) : BoxI k G l v (H ++ N) :=
  ⟨h.keeps.app N, at_app h.box, h.own.app N⟩
theorem BoxI.push {k : Nat} {G H : AHeap} {l : List Int} {v : Value} (h : BoxI k G l v H) (hk : k < G.length) (hl : G.length < H.length) (x : Int) {Rb : AObj} (hR : H[G.length]? = some Rb) :
    storeR 1 (.pointer (some ⟨k, 0, none⟩)) (pushV H l.length) (pushH H v l x) = some (undef, (pushH H v l x).set k (.cells true 0 [pushV H l.length])) ∧
    BoxI k G (l ++ [x]) (pushV H l.length) ((pushH H v l x).set k (.cells true 0 [pushV H l.length])) ∧ ((pushH H v l x).set k (.cells true 0 [pushV H l.length]))[G.length]? = some Rb := by
  have b1 := pushH_at (l := l) (x := x) h.box (h.own.nil_or (h.own.aside (by simp; omega)))
  have b2 := pushH_at (l := l) (x := x) hR (h.own.nil_or (h.own.aside (by simp)))
  refine ⟨store_b1 b1 rfl rfl, ⟨(h.keeps.push h.own (by simp) x).set (.inl rfl) _, get_set_self b1, ?_⟩, by rw [List.getElem?_set_ne (by omega)]; exact b2⟩
  have ho := h.own.pushedL (by simp; omega) x
  exact ho.set_ne (.inr (by show H.length + 1 ≠ k; omega)) _

/-! ### slices.Backward over numbers -/
def topErrL (c : List Int) (d amp : Int) : Int := firstErr [filterErrL c d, ampErrL amp]
theorem topErr_ok {c : List Int} {d amp : Int} (h : topErrL c d amp = 0) : filterErrL c d = 0 ∧ 0 ≤ amp ∧ amp ≤ 32767 := by
  unfold topErrL firstErr at h
  by_cases h1 : filterErrL c d = 0
  · refine ⟨h1, ?_⟩
    by_cases h2 : 0 ≤ amp ∧ amp ≤ 32767
    · exact h2
    · simp [h1, ampErrL, h2] at h
  · simp [h1] at h
def topL (c : List Int) (d amp : Int) : Int × Int := if topErrL c d amp = 0 then lowF (strL c * amp) d else (0, 0)
theorem store_newF {H : AHeap} {p : Int × Int} {a b : Int} : storeR 2 (.pointer (some ⟨H.length, 0, none⟩)) (fracV p) (H ++ [.cells true 0 [.int .i64 a, .int .i64 b]]) = some (undef, H ++ [.cells true 0 [.int .i64 p.1, .int .i64 p.2]]) := store_new2
theorem fill_none (zs : List Value) : fillA zs [] = some zs := rfl
theorem fin_l2f {c : RCode} {n a b : Nat} {R : Value → AHeap → Prop} {e : Env} {H : AHeap} {id : Nat} {o : Bool} {z : Nat} {x y : Value} (hp : e.getD a undef = .pointer (some ⟨id, 0, none⟩)) (h1 : H[id]? = some (.cells o z [x, y])) (h : R (.tuple #[.agg ⟨[x, y]⟩, e.getD b undef]) H) :
    Fin ⟨c, n, [.loadN 2 a, .tmp b]⟩ R .ret e H := fin_l2 (u := .agg ⟨[x, y]⟩) (by rw [hp]; exact loadN_at h1 (by simp)) h

section
variable {H : AHeap}
theorem maximumOutput_c {c : List Int} {v : Value} {d amp : Int} (hc : Ints H c v) (hb : c.length ≤ 1000000000) : ACall Go.Proofs.Tryd.prog 77 [.agg ⟨[v, .int .i64 d]⟩, .int .i64 amp] H fun w H' =>
    w = .tuple #[fracV (topL c d amp), .int .i64 (topErrL c d amp)] ∧ H' = H := by
  refine ACall.drop (closed_frac1 _ _) ?_
  (refine a77 ?_; simp only [n77, List.replicate, yq, yr, yt, yu]; first | refine q1 ?_ | refine q2 ?_ | refine q6 ?_ | refine q7 ?_ | refine qh rfl ?_ | skip)
  obtain ⟨G, hG⟩ : ∃ G, G = H ++ [AObj.cells true 0 [v, .int .i64 d]] ++ [AObj.cells true 0 [.int .i64 0, .int .i64 0]] := ⟨_, rfl⟩
  have g0 : G[H.length]? = some (.cells true 0 [v, .int .i64 d]) := by rw [hG]; exact at_app at_new
  have g1 : G[H.length + 1]? = some (.cells true 0 [.int .i64 0, .int .i64 0]) := by rw [hG]; simp
  have xG : Ext H G := by rw [hG]; exact ((Ext.refl H).app _).app _
  have lG : G.length = H.length + 2 := by rw [hG]; simp
  (repeat (first | refine ya (by (with_reducible constructor) <;> first | rfl | decide) ?_ | (apply yd; simp (disch := first | exact yn | omega | (simp only [go_sem]; done) | (simp only [ln, ym]; omega) | (repeat' first | assumption | exact yo _ | refine yp ?_ _)) only [go_sem, hc.box2]; with_reducible rfl)))
  (simp only [List.length_append, List.length_cons, List.length_nil, Nat.zero_add, Nat.add_assoc, Nat.reduceAdd])
  rw [← hG]
  clear hG
  ((repeat (first | refine ya (by (with_reducible constructor) <;> first | rfl | decide) ?_ | apply yb | refine yc rfl ?_ | ((first | apply yd | apply ye); simp (disch := first | exact yn | omega | (simp only [go_sem]; done) | (simp only [ln, ym]; omega) | (repeat' first | assumption | exact yo _ | refine yp ?_ _)) only [go_sem, n2_at g0]; with_reducible rfl))))
  refine aops_call_to (checkFilter_c (hc.ext xG) hb) ?_
  ((repeat (first | refine ya (by (with_reducible constructor) <;> first | rfl | decide) ?_ | apply yb | refine yc rfl ?_ | ((first | apply yd | apply ye); simp (disch := first | exact yn | omega | (simp only [go_sem]; done) | (simp only [ln, ym]; omega) | (repeat' first | assumption | exact yo _ | refine yp ?_ _)) only [go_sem]; with_reducible rfl))))
  refine aops_call_to (amplitudeErr_c _) ?_
  ((repeat (first | refine ya (by (with_reducible constructor) <;> first | rfl | decide) ?_ | apply yb | refine yc rfl ?_ | ((first | apply yd | apply ye); simp (disch := first | exact yn | omega | (simp only [go_sem]; done) | (simp only [ln, ym]; omega) | (repeat' first | assumption | exact yo _ | refine yp ?_ _)) only [go_sem]; with_reducible rfl))))
  refine aops_call_to (first_c (l := [_, _]) (Ints.last (l := [_, _]) 2) (by simp)) ?_
  have he : firstErr [filterErrL c d, ampErrL amp] = topErrL c d amp := rfl
  rw [he]
  have y0 := at_app (N := [AObj.cells true 1 [.int .i64 (filterErrL c d), .int .i64 (ampErrL amp)]]) g0
  have y1 := at_app (N := [AObj.cells true 1 [.int .i64 (filterErrL c d), .int .i64 (ampErrL amp)]]) g1
  have x2 := xG.app [AObj.cells true 1 [.int .i64 (filterErrL c d), .int .i64 (ampErrL amp)]]
  generalize (G ++ [AObj.cells true 1 [.int .i64 (filterErrL c d), .int .i64 (ampErrL amp)]] : AHeap) = G2 at y0 y1 x2
  by_cases hz : topErrL c d amp = 0
  rotate_left 1
  · ((repeat (first | refine ya (by (with_reducible constructor) <;> first | rfl | decide) ?_ | apply yb | refine yc rfl ?_ | ((first | apply yd | apply ye); simp (disch := first | exact yn | omega | (simp only [go_sem]; done) | (simp only [ln, ym]; omega) | (repeat' first | assumption | exact yo _ | refine yp ?_ _)) only [go_sem, dec_t (show topErrL c d amp ≠ 0 from hz)]; with_reducible rfl))))
    refine cond_t rfl ?_
    ((repeat (first | refine ya (by (with_reducible constructor) <;> first | rfl | decide) ?_ | apply yb | refine yc rfl ?_ | ((first | apply yd | apply ye); simp (disch := first | exact yn | omega | (simp only [go_sem]; done) | (simp only [ln, ym]; omega) | (repeat' first | assumption | exact yo _ | refine yp ?_ _)) only [go_sem, fill_none, store_b2 (a := 0) (b := 0) y1]; with_reducible rfl))))
    exact fin_l2f rfl (get_set_self y1) ⟨by unfold topL; rw [if_neg hz]; rfl, x2.set (by omega) _⟩
  ((repeat (first | refine ya (by (with_reducible constructor) <;> first | rfl | decide) ?_ | apply yb | refine yc rfl ?_ | ((first | apply yd | apply ye); simp (disch := first | exact yn | omega | (simp only [go_sem]; done) | (simp only [ln, ym]; omega) | (repeat' first | assumption | exact yo _ | refine yp ?_ _)) only [go_sem, hz]; with_reducible rfl))))
  refine cond_f rfl ?_
  obtain ⟨hf, ha⟩ := topErr_ok hz
  obtain ⟨f1, f2, f3, f4, f5⟩ := filterErr_ok hf
  have hc2 := hc.ext x2
  ((repeat (first | refine ya (by (with_reducible constructor) <;> first | rfl | decide) ?_ | apply yb | refine yc rfl ?_ | ((first | apply yd | apply ye); simp (disch := first | exact yn | omega | (simp only [go_sem]; done) | (simp only [ln, ym]; omega) | (repeat' first | assumption | exact yo _ | refine yp ?_ _)) only [go_sem, hc2.len, hc2.idx, hc2.load, load_at y0]; with_reducible rfl))))
  refine awp_loop_n [false, true, true, false, true, true, false, true, false, false, false, false, false, false, false, false, false, false, false, false, false, true, true, true, false, false, false, false, false, false, false, false, false, false, false, false, false, false, false, false] c.length (fun j e H' => H' = G2 ∧ e = [junk, .int .i64 amp, .pointer (some ⟨H.length, 0, none⟩), junk, .pointer (some ⟨H.length + 1, 0, none⟩), .int .i64 0, junk, .int .i64 (strTo c j), junk, junk, junk, junk, junk, junk, junk, junk, junk, junk, junk, junk, junk, v, .int .i64 (c.length : Nat), .int .i64 j, junk, junk, junk, junk, junk, junk, junk, junk, junk, junk, junk, junk, junk, junk, junk, junk]) ?_ ?_
  · exact ⟨rfl, by simp [forget, strTo]⟩
  rintro j e H' hj ⟨rfl, rfl⟩
  have b1 := strTo_bound (a := 1000) f3 j
  ((repeat (first | refine ya (by (with_reducible constructor) <;> first | rfl | decide) ?_ | apply yb | refine yc rfl ?_ | ((first | apply yd | apply ye); simp (disch := first | exact yn | omega | (simp only [go_sem]; done) | (simp only [ln, ym]; omega) | (repeat' first | assumption | exact yo _ | refine yp ?_ _)) only [go_sem]; with_reducible rfl))))
  refine cond_p rfl (fun hlt => ?_) (fun hge => ?_)
  · have hj' : j < c.length := by omega
    have b2 := f3 j
    have b3 := sz_bound b2
    ((repeat (first | refine ya (by (with_reducible constructor) <;> first | rfl | decide) ?_ | apply yb | refine yc rfl ?_ | ((first | apply yd | apply ye); simp (disch := first | exact yn | omega | (simp only [go_sem]; done) | (simp only [ln, ym]; omega) | (repeat' first | assumption | exact yo _ | refine yp ?_ _)) only [go_sem, hc2.len, hc2.idx, hc2.load]; with_reducible rfl))))
    refine aops_call_to (sign_c _) ?_
    ((repeat (first | refine ya (by (with_reducible constructor) <;> first | rfl | decide) ?_ | apply yb | refine yc rfl ?_ | ((first | apply yd | apply ye); simp (disch := first | exact yn | omega | (simp only [go_sem]; done) | (simp only [ln, ym]; omega) | (repeat' first | assumption | exact yo _ | refine yp ?_ _)) only [go_sem, mul_sg]; with_reducible rfl))))
    exact ⟨by omega, rfl, by simp [forget, strTo]⟩
  · obtain rfl : j = c.length := by omega
    have b2 := mul_abs (x := strTo c c.length) (y := amp) (a := 8000) (b := 32767) ⟨by omega, by omega⟩ ⟨by omega, by omega⟩
    ((repeat (first | refine ya (by (with_reducible constructor) <;> first | rfl | decide) ?_ | apply yb | refine yc rfl ?_ | ((first | apply yd | apply ye); simp (disch := first | exact yn | omega | (simp only [go_sem]; done) | (simp only [ln, ym]; omega) | (repeat' first | assumption | exact yo _ | refine yp ?_ _)) only [go_sem, load_at y0]; with_reducible rfl))))
    refine aops_call_to (lowest_c _ _ (by omega) (by omega)) ?_
    ((repeat (first | refine ya (by (with_reducible constructor) <;> first | rfl | decide) ?_ | apply yb | refine yc rfl ?_ | ((first | apply yd | apply ye); simp (disch := first | exact yn | omega | (simp only [go_sem]; done) | (simp only [ln, ym]; omega) | (repeat' first | assumption | exact yo _ | refine yp ?_ _)) only [go_sem, store_b2 (a := (lowF (strTo c c.length * amp) d).1) (b := (lowF (strTo c c.length * amp) d).2) y1]; with_reducible rfl))))
    exact fin_l2f rfl (get_set_self y1) ⟨by unfold topL; rw [if_pos hz, hz]; rfl, x2.set (by omega) _⟩

end
end Go.Lq

namespace Go.Lq
open Go
open Go.Proofs

theorem most_max3 {a b c : Int} {H : AHeap} : mostR true (.int .i64 a) [.int .i64 b, .int .i64 c] H = some (.int .i64 (max (max a b) c), H) := by
  simp only [mostR, mostA, Option.map_some, if_true]
  congr 3
  split <;> split <;> omega
theorem most_min3 {a b c : Int} {H : AHeap} : mostR false (.int .i64 a) [.int .i64 b, .int .i64 c] H = some (.int .i64 (min (min a b) c), H) := by
  simp only [mostR, mostA, Option.map_some]
  congr 3
  simp only [Bool.false_eq_true, if_false]
  split <;> split <;> omega
attribute [go_sem] most_max3 most_min3
section
variable {H : AHeap}
end
end Go.Lq

namespace Go.Lq
open Go
open Go.Proofs

def eqvR (kind : Nat) (neg : Bool) (x y : Value) (H : AHeap) : Option (Value × AHeap) := (eqvA kind x y).map fun b => (.bool (neg != b), H)
theorem r_eqv {ρ : Operand → Value} {H : AHeap} {k : Nat} {neg : Bool} {x y : Operand} : ropRun (.eqv k neg x y) ρ H = eqvR k neg (ρ x) (ρ y) H := rfl
theorem eqv_slN {neg : Bool} {a : Addr} {n c : Nat} {H : AHeap} : eqvR 2 neg (.slice (some a) n c) (.slice none 0 0) H = some (.bool (neg != false), H) := rfl
theorem eqv_slNN {neg : Bool} {H : AHeap} : eqvR 2 neg (.slice none 0 0) (.slice none 0 0) H = some (.bool (neg != true), H) := rfl
attribute [go_sem] r_eqv eqv_slN eqv_slNN
theorem ints_first {H : AHeap} {id c : Nat} {l r : List Int} {b : Bool} (h : H[id]? = some (.cells b 1 ((l ++ r).map (.int .i64)))) : Ints H l (.slice (some ⟨id, 0, none⟩) l.length c) := by
  refine ⟨by simp, .inr ⟨id, 0, c, rfl, fun _ => ?_⟩⟩
  unfold cellsAt
  rw [h]
  simp only
  rw [if_pos (by simp), List.drop_zero, List.map_append, List.take_append_of_le_length (by simp), List.take_of_length_le (by simp)]
theorem store_cellI {H : AHeap} {id n c i : Nat} {l : List Int} (h : H[id]? = some (.cells true 1 (l.map (.int .i64)))) (hi : i < l.length) (x : Int) :
    storeR 1 (addrOf (.slice (some ⟨id, 0, none⟩) n c) i) (.int .i64 x) H = some (undef, H.set id (.cells true 1 ((l.set i x).map (.int .i64)))) := by
  have e1 : (Value.int .i64 x).cells.toList = [.int .i64 x] := rfl
  have e2 : (Value.int .i64 x).cells.size = 1 := rfl
  have e3 : ([Value.int .i64 x]).all isAtom = true := rfl
  simp only [addrOf, Nat.zero_add, storeR, e1, e2, if_true, storeAt, h, e3, and_true, List.length_map]
  rw [if_pos (by simp; omega), setCells_one _ _ _ (by simpa using hi)]
  simp only [Option.map_some, List.map_set]

section
variable {H : AHeap}
end
end Go.Lq

namespace Go.Lq
open Go
open Go.Proofs

theorem set_in {H : AHeap} {A A' B : AObj} : (H ++ [A] ++ [B]).set H.length A' = H ++ [A'] ++ [B] := by
  rw [List.set_append_left _ _ (by simp), List.set_append_right _ _ (by simp)]
  simp
section
variable {G : AHeap} {l : List Int} {n : Nat} {d : Int}
end

theorem store_c0 {H : AHeap} {id e : Nat} {x y z : Value} (h : H[id]? = some (.cells true e [x, z])) (ha : isAtom y = true) (hc : y.cells = ⟨[y]⟩) : storeR 1 (.pointer (some ⟨id, 0, none⟩)) y H = some (undef, H.set id (.cells true e [y, z])) := by
  have e2 : ([y] : List Value).all isAtom = true := by simp [ha]
  have e3 : setCells [x, z] 0 [y] = [y, z] := rfl
  simp only [storeR, hc, List.size_toArray, storeAt, h, e2, e3, and_true, List.length_cons, List.length_nil]
  rfl
structure BoxD (k : Nat) (G : AHeap) (l : List Int) (v : Value) (d : Int) (H : AHeap) : Prop where
  keeps : Keeps k G H
  box : H[k]? = some (.cells true 0 [v, .int .i64 d])
  own : OwnI G H l v
theorem BoxD.push {k : Nat} {G H : AHeap} {l : List Int} {v : Value} {d : Int} (h : BoxD k G l v d H) (hk : k < G.length) (x : Int) :
    storeR 1 (.pointer (some ⟨k, 0, none⟩)) (pushV H l.length) (pushH H v l x) = some (undef, (pushH H v l x).set k (.cells true 0 [pushV H l.length, .int .i64 d])) ∧
    BoxD k G (l ++ [x]) (pushV H l.length) d ((pushH H v l x).set k (.cells true 0 [pushV H l.length, .int .i64 d])) := by
  have b1 := pushH_at (l := l) (x := x) h.box (h.own.nil_or (h.own.aside hk))
  have hl := h.keeps.1
  refine ⟨store_c0 b1 rfl rfl, ⟨(h.keeps.push h.own (Nat.le_refl _) x).set (.inl rfl) _, get_set_self b1, ?_⟩⟩
  exact (h.own.pushedL hl x).set_ne (.inr (by show H.length + 1 ≠ k; omega)) _
section
variable {H : AHeap}
end
end Go.Lq

namespace Go.Lq
open Go
open Go.Proofs

section
variable {H : AHeap}
theorem swithin_c (n lo hi : Int) : ACall Go.Proofs.Tryd.prog 141 [.int .i64 n, .int .i64 lo, .int .i64 hi] H fun v H' => v = .bool (decide (lo ≤ n ∧ n ≤ hi)) ∧ H' = H := by
  (refine a141 ?_; simp only [n141, List.replicate, yq, yr, yt, yu]; first | refine q1 ?_ | refine q2 ?_ | refine q6 ?_ | refine q7 ?_ | refine qh rfl ?_ | skip)
  (repeat (first | refine ya (by (with_reducible constructor) <;> first | rfl | decide) ?_ | apply yb | refine yc rfl ?_)); (refine aops_until (by simp (disch := first | exact yn | omega | (simp only [go_sem]; done) | (simp only [ln, ym]; omega) | (repeat' first | assumption | exact yo _ | refine yp ?_ _)) only [go_sem]; with_reducible rfl) ?_); (repeat (first | refine ya (by (with_reducible constructor) <;> first | rfl | decide) ?_ | apply yb | refine yc rfl ?_))
  by_cases h : lo ≤ n
  · (refine aops_until (by simp (disch := first | exact yn | omega | (simp only [go_sem]; done) | (simp only [ln, ym]; omega) | (repeat' first | assumption | exact yo _ | refine yp ?_ _)) only [go_sem, h]; with_reducible rfl) ?_)
    (repeat (first | refine ya (by (with_reducible constructor) <;> first | rfl | decide) ?_ | apply yb | refine yc rfl ?_))
    refine fin_1 ⟨?_, rfl⟩
    simp [h]
  · (refine aops_until (by simp (disch := first | exact yn | omega | (simp only [go_sem]; done) | (simp only [ln, ym]; omega) | (repeat' first | assumption | exact yo _ | refine yp ?_ _)) only [go_sem, h]; with_reducible rfl) ?_)
    (repeat (first | refine ya (by (with_reducible constructor) <;> first | rfl | decide) ?_ | apply yb | refine yc rfl ?_))
    refine fin_1 ⟨?_, rfl⟩
    simp [h]
theorem sunless_c (b : Bool) (e : Int) : ACall Go.Proofs.Tryd.prog 134 [.bool b, .int .i64 e] H fun v H' => v = .int .i64 (if b then 0 else e) ∧ H' = H := by
  (refine a134 ?_; simp only [n134, List.replicate, yq, yr, yt, yu]; first | refine q1 ?_ | refine q2 ?_ | refine q6 ?_ | refine q7 ?_ | refine qh rfl ?_ | skip)
  (repeat (first | refine ya (by (with_reducible constructor) <;> first | rfl | decide) ?_ | apply yb | refine yc rfl ?_)); (refine aops_until (by simp (disch := first | exact yn | omega | (simp only [go_sem]; done) | (simp only [ln, ym]; omega) | (repeat' first | assumption | exact yo _ | refine yp ?_ _)) only [go_sem]; with_reducible rfl) ?_); (repeat (first | refine ya (by (with_reducible constructor) <;> first | rfl | decide) ?_ | apply yb | refine yc rfl ?_)); (refine aops_until (by simp (disch := first | exact yn | omega | (simp only [go_sem]; done) | (simp only [ln, ym]; omega) | (repeat' first | assumption | exact yo _ | refine yp ?_ _)) only [go_sem]; with_reducible rfl) ?_); (repeat (first | refine ya (by (with_reducible constructor) <;> first | rfl | decide) ?_ | apply yb | refine yc rfl ?_))
  cases b with
  | true =>
    refine cond_t rfl ?_
    (repeat (first | refine ya (by (with_reducible constructor) <;> first | rfl | decide) ?_ | apply yb | refine yc rfl ?_)); (refine aops_until (by simp (disch := first | exact yn | omega | (simp only [go_sem]; done) | (simp only [ln, ym]; omega) | (repeat' first | assumption | exact yo _ | refine yp ?_ _)) only [go_sem]; with_reducible rfl) ?_); (repeat (first | refine ya (by (with_reducible constructor) <;> first | rfl | decide) ?_ | apply yb | refine yc rfl ?_))
    exact fin_1 ⟨rfl, rfl⟩
  | false =>
    refine cond_f rfl ?_
    (repeat (first | refine ya (by (with_reducible constructor) <;> first | rfl | decide) ?_ | apply yb | refine yc rfl ?_)); (refine aops_until (by simp (disch := first | exact yn | omega | (simp only [go_sem]; done) | (simp only [ln, ym]; omega) | (repeat' first | assumption | exact yo _ | refine yp ?_ _)) only [go_sem]; with_reducible rfl) ?_); (repeat (first | refine ya (by (with_reducible constructor) <;> first | rfl | decide) ?_ | apply yb | refine yc rfl ?_))
    exact fin_1 ⟨rfl, rfl⟩
theorem sfirst_c {l : List Int} {v : Value} (hl : Ints H l v) (hb : l.length ≤ 1000000) : ACall Go.Proofs.Tryd.prog 133 [v] H fun v H' => v = .int .i64 (firstErr l) ∧ H' = H := by
  (refine a133 ?_; simp only [n133, List.replicate, yq, yr, yt, yu]; first | refine q1 ?_ | refine q2 ?_ | refine q6 ?_ | refine q7 ?_ | refine qh rfl ?_ | skip)
  (repeat (first | refine ya (by (with_reducible constructor) <;> first | rfl | decide) ?_ | apply yb | refine yc rfl ?_)); (refine aops_until (by simp (disch := first | exact yn | omega | (simp only [go_sem]; done) | (simp only [ln, ym]; omega) | (repeat' first | assumption | exact yo _ | refine yp ?_ _)) only [go_sem]; with_reducible rfl) ?_); (repeat (first | refine ya (by (with_reducible constructor) <;> first | rfl | decide) ?_ | apply yb | refine yc rfl ?_)); (refine aops_until (by simp (disch := first | exact yn | omega | (simp only [go_sem]; done) | (simp only [ln, ym]; omega) | (repeat' first | assumption | exact yo _ | refine yp ?_ _)) only [go_sem, hl.len, hl.idx, hl.load]; with_reducible rfl) ?_); (repeat (first | refine ya (by (with_reducible constructor) <;> first | rfl | decide) ?_ | apply yb | refine yc rfl ?_))
  refine awp_loop_n [true, false, true, false, false, true, true, true, false, false, false, false, false, false, false] l.length (fun i e H' => H' = H ∧ e = [v, junk, .int .i64 0, junk, junk, v, .int .i64 l.length, .int .i64 i, junk, junk, junk, junk, junk, junk, junk] ∧ ∀ j < i, l.getD j 0 = 0) ?_ ?_
  · exact ⟨rfl, rfl, by omega⟩
  · rintro i e H' hi ⟨rfl, rfl, hp⟩
    (repeat (first | refine ya (by (with_reducible constructor) <;> first | rfl | decide) ?_ | apply yb | refine yc rfl ?_)); (refine aops_until (by simp (disch := first | exact yn | omega | (simp only [go_sem]; done) | (simp only [ln, ym]; omega) | (repeat' first | assumption | exact yo _ | refine yp ?_ _)) only [go_sem, hl.len, hl.idx, hl.load]; with_reducible rfl) ?_); (repeat (first | refine ya (by (with_reducible constructor) <;> first | rfl | decide) ?_ | apply yb | refine yc rfl ?_))
    refine cond_p rfl (fun hlt => ?_) (fun hge => ?_)
    · (repeat (first | refine ya (by (with_reducible constructor) <;> first | rfl | decide) ?_ | apply yb | refine yc rfl ?_)); (refine aops_until (by simp (disch := first | exact yn | omega | (simp only [go_sem]; done) | (simp only [ln, ym]; omega) | (repeat' first | assumption | exact yo _ | refine yp ?_ _)) only [go_sem, hl.len, hl.idx, hl.load]; with_reducible rfl) ?_); (repeat (first | refine ya (by (with_reducible constructor) <;> first | rfl | decide) ?_ | apply yb | refine yc rfl ?_)); (refine aops_until (by simp (disch := first | exact yn | omega | (simp only [go_sem]; done) | (simp only [ln, ym]; omega) | (repeat' first | assumption | exact yo _ | refine yp ?_ _)) only [go_sem]; with_reducible rfl) ?_); (repeat (first | refine ya (by (with_reducible constructor) <;> first | rfl | decide) ?_ | apply yb | refine yc rfl ?_))
      refine cond_p rfl (fun hne => ?_) (fun heq => ?_)
      · (repeat (first | refine ya (by (with_reducible constructor) <;> first | rfl | decide) ?_ | apply yb | refine yc rfl ?_)); (refine aops_until (by simp (disch := first | exact yn | omega | (simp only [go_sem]; done) | (simp only [ln, ym]; omega) | (repeat' first | assumption | exact yo _ | refine yp ?_ _)) only [go_sem]; with_reducible rfl) ?_); (repeat (first | refine ya (by (with_reducible constructor) <;> first | rfl | decide) ?_ | apply yb | refine yc rfl ?_))
        refine fin_1 ⟨?_, rfl⟩
        unfold firstErr
        rw [find_at (d := 0) (i := i) (by omega) (fun j hj => by simpa using hp j hj) (by simpa using hne)]
        rfl
      · (repeat (first | refine ya (by (with_reducible constructor) <;> first | rfl | decide) ?_ | apply yb | refine yc rfl ?_)); (refine aops_until (by simp (disch := first | exact yn | omega | (simp only [go_sem]; done) | (simp only [ln, ym]; omega) | (repeat' first | assumption | exact yo _ | refine yp ?_ _)) only [go_sem]; with_reducible rfl) ?_); (repeat (first | refine ya (by (with_reducible constructor) <;> first | rfl | decide) ?_ | apply yb | refine yc rfl ?_))
        refine ⟨by omega, rfl, ?_, fun j hj => ?_⟩
        · simp [forget]
        · by_cases h : j = i
          · subst h; simpa using heq
          · exact hp j (by omega)
    · (repeat (first | refine ya (by (with_reducible constructor) <;> first | rfl | decide) ?_ | apply yb | refine yc rfl ?_)); (refine aops_until (by simp (disch := first | exact yn | omega | (simp only [go_sem]; done) | (simp only [ln, ym]; omega) | (repeat' first | assumption | exact yo _ | refine yp ?_ _)) only [go_sem]; with_reducible rfl) ?_); (repeat (first | refine ya (by (with_reducible constructor) <;> first | rfl | decide) ?_ | apply yb | refine yc rfl ?_))
      refine fin_1 ⟨?_, rfl⟩
      unfold firstErr
      rw [find_none (d := 0) (fun j hj => by simpa using hp j (by omega))]
      rfl
theorem isPosition_c (n : Int) : ACall Go.Proofs.Tryd.prog 135 [.int .i64 n] H fun v H' => v = .bool (decide (0 ≤ n ∧ n ≤ 1000000)) ∧ H' = H := by
  (refine a135 ?_; simp only [n135, List.replicate, yq, yr, yt, yu]; first | refine q1 ?_ | refine q2 ?_ | refine q6 ?_ | refine q7 ?_ | refine qh rfl ?_ | skip)
  ((repeat (first | refine ya (by (with_reducible constructor) <;> first | rfl | decide) ?_ | apply yb | refine yc rfl ?_ | ((first | apply yd | apply ye); simp (disch := first | exact yn | omega | (simp only [go_sem]; done) | (simp only [ln, ym]; omega) | (repeat' first | assumption | exact yo _ | refine yp ?_ _)) only [go_sem]; with_reducible rfl))))
  refine aops_call_to (swithin_c _ _ _) ?_
  ((repeat (first | refine ya (by (with_reducible constructor) <;> first | rfl | decide) ?_ | apply yb | refine yc rfl ?_ | ((first | apply yd | apply ye); simp (disch := first | exact yn | omega | (simp only [go_sem]; done) | (simp only [ln, ym]; omega) | (repeat' first | assumption | exact yo _ | refine yp ?_ _)) only [go_sem]; with_reducible rfl))))
  exact fin_1 ⟨rfl, rfl⟩
theorem isTime_c (n : Int) : ACall Go.Proofs.Tryd.prog 136 [.int .i64 n] H fun v H' => v = .bool (decide (0 ≤ n ∧ n ≤ 1000000000000)) ∧ H' = H := by
  (refine a136 ?_; simp only [n136, List.replicate, yq, yr, yt, yu]; first | refine q1 ?_ | refine q2 ?_ | refine q6 ?_ | refine q7 ?_ | refine qh rfl ?_ | skip)
  ((repeat (first | refine ya (by (with_reducible constructor) <;> first | rfl | decide) ?_ | apply yb | refine yc rfl ?_ | ((first | apply yd | apply ye); simp (disch := first | exact yn | omega | (simp only [go_sem]; done) | (simp only [ln, ym]; omega) | (repeat' first | assumption | exact yo _ | refine yp ?_ _)) only [go_sem]; with_reducible rfl))))
  refine aops_call_to (swithin_c _ _ _) ?_
  ((repeat (first | refine ya (by (with_reducible constructor) <;> first | rfl | decide) ?_ | apply yb | refine yc rfl ?_ | ((first | apply yd | apply ye); simp (disch := first | exact yn | omega | (simp only [go_sem]; done) | (simp only [ln, ym]; omega) | (repeat' first | assumption | exact yo _ | refine yp ?_ _)) only [go_sem]; with_reducible rfl))))
  exact fin_1 ⟨rfl, rfl⟩
theorem Pairs.atom {l : List (Int × Int)} {v : Value} (h : Pairs H l v) : isAtom v = true := by
  rcases h.2 with ⟨rfl, _⟩ | ⟨id, off, c, rfl, _⟩ <;> rfl
theorem Pairs.box1 {l : List (Int × Int)} {v : Value} (h : Pairs H l v) {H' : AHeap} : boxR (.agg ⟨[v]⟩) H' = some (.pointer (some ⟨H'.length, 0, none⟩), H' ++ [.cells true 0 [v]]) :=
  box_agg (by simp [h.atom])
theorem n1_at {G : AHeap} {id : Nat} {a : Value} (h : G[id]? = some (.cells true 0 [a])) : loadNR 1 (.pointer (some ⟨id, 0, none⟩)) G = some (.agg ⟨[a]⟩, G) := loadN_at h (by simp)
theorem node_E {p n : Int × Int} : firstErr [(if decide ((0 ≤ n.1 ∧ n.1 ≤ 1000000) ∧ (0 ≤ n.2 ∧ n.2 ≤ 1000000000000)) = true then 0 else 2), (if decide (p.1 < n.1 ∧ p.2 < n.2) = true then 0 else 9)] = nodeE p n := by
  unfold nodeE
  simp only [decide_eq_true_eq]

set_option maxHeartbeats 4000000 in
theorem spCheckMap_c {l : List (Int × Int)} {v : Value} (hl : Pairs H l v) (hb : l.length ≤ 1000000000) : ACall Go.Proofs.Tryd.prog 97 [.agg ⟨[v]⟩] H fun w H' => w = .tuple #[.int .i64 (ckMap l).1, .int .i64 (ckMap l).2] ∧ H' = H := by
  refine ACall.drop (closed_two _ _) ?_
  (refine a97 ?_; simp only [n97, List.replicate, yq, yr, yt, yu]; first | refine q1 ?_ | refine q2 ?_ | refine q6 ?_ | refine q7 ?_ | refine qh rfl ?_ | skip)
  have g0 : (H ++ [AObj.cells true 0 [v]])[H.length]? = some (.cells true 0 [v]) := at_new
  have xG : Ext H (H ++ [AObj.cells true 0 [v]]) := (Ext.refl H).app _
  ((repeat (first | refine ya (by (with_reducible constructor) <;> first | rfl | decide) ?_ | apply yb | refine yc rfl ?_ | ((first | apply yd | apply ye); simp (disch := first | exact yn | omega | (simp only [go_sem]; done) | (simp only [ln, ym]; omega) | (repeat' first | assumption | exact yo _ | refine yp ?_ _)) only [go_sem, hl.box1]; with_reducible rfl))))
  generalize (H ++ [AObj.cells true 0 [v]] : AHeap) = G at g0 xG
  have hl1 := hl.ext xG
  ((repeat (first | refine ya (by (with_reducible constructor) <;> first | rfl | decide) ?_ | apply yb | refine yc rfl ?_ | ((first | apply yd | apply ye); simp (disch := first | exact yn | omega | (simp only [go_sem]; done) | (simp only [ln, ym]; omega) | (repeat' first | assumption | exact yo _ | refine yp ?_ _)) only [go_sem, hl1.len, hl1.idx, hl1.load, load_at g0]; with_reducible rfl))))
  refine adraw_call (N := []) (firstD (sunless_c _ _)) ?_
  rw [List.append_nil]
  ((repeat (first | refine ya (by (with_reducible constructor) <;> first | rfl | decide) ?_ | apply yb | refine yc rfl ?_ | ((first | apply yd | apply ye); simp (disch := first | exact yn | omega | (simp only [go_sem]; done) | (simp only [ln, ym]; omega) | (repeat' first | assumption | exact yo _ | refine yp ?_ _)) only [go_sem, hl1.len, hl1.idx, hl1.load, load_at g0]; with_reducible rfl))))
  refine adraw_call (N := []) (firstD (sunless_c _ _)) ?_
  rw [List.append_nil]
  ((repeat (first | refine ya (by (with_reducible constructor) <;> first | rfl | decide) ?_ | apply yb | refine yc rfl ?_ | ((first | apply yd | apply ye); simp (disch := first | exact yn | omega | (simp only [go_sem]; done) | (simp only [ln, ym]; omega) | (repeat' first | assumption | exact yo _ | refine yp ?_ _)) only [go_sem]; with_reducible rfl))))
  refine adraw_call (N := []) (firstD (sfirst_c (l := [_, _]) (Ints.last (l := [_, _]) 2) (by simp))) ?_
  rw [List.append_nil]
  by_cases h2 : l.length < 2
  · have ec : ckMap l = (0, 10) := by unfold ckMap; rw [if_pos h2]
    rw [ec]
    ((repeat (first | refine ya (by (with_reducible constructor) <;> first | rfl | decide) ?_ | apply yb | refine yc rfl ?_ | ((first | apply yd | apply ye); simp (disch := first | exact yn | omega | (simp only [go_sem]; done) | (simp only [ln, ym]; omega) | (repeat' first | assumption | exact yo _ | refine yp ?_ _)) only [go_sem, dec_f (show ¬ (2 : Int) ≤ (l.length : Int) by omega), ite_ft, firstErr_e (show (10 : Int) ≠ 0 by decide)]; with_reducible rfl))))
    refine cond_t rfl ?_
    ((repeat (first | refine ya (by (with_reducible constructor) <;> first | rfl | decide) ?_ | apply yb | refine yc rfl ?_ | ((first | apply yd | apply ye); simp (disch := first | exact yn | omega | (simp only [go_sem]; done) | (simp only [ln, ym]; omega) | (repeat' first | assumption | exact yo _ | refine yp ?_ _)) only [go_sem]; with_reducible rfl))))
    exact fin_2 ⟨rfl, xG.app _⟩
  by_cases h20 : 20 < l.length
  · have ec : ckMap l = (0, 8) := by unfold ckMap; rw [if_neg h2, if_pos h20]
    rw [ec]
    ((repeat (first | refine ya (by (with_reducible constructor) <;> first | rfl | decide) ?_ | apply yb | refine yc rfl ?_ | ((first | apply yd | apply ye); simp (disch := first | exact yn | omega | (simp only [go_sem]; done) | (simp only [ln, ym]; omega) | (repeat' first | assumption | exact yo _ | refine yp ?_ _)) only [go_sem, dec_t (show (2 : Int) ≤ (l.length : Int) by omega), dec_f (show ¬ (l.length : Int) ≤ 20 by omega), ite_tt, ite_ft, firstErr_z, firstErr_e (show (8 : Int) ≠ 0 by decide)]; with_reducible rfl))))
    refine cond_t rfl ?_
    ((repeat (first | refine ya (by (with_reducible constructor) <;> first | rfl | decide) ?_ | apply yb | refine yc rfl ?_ | ((first | apply yd | apply ye); simp (disch := first | exact yn | omega | (simp only [go_sem]; done) | (simp only [ln, ym]; omega) | (repeat' first | assumption | exact yo _ | refine yp ?_ _)) only [go_sem]; with_reducible rfl))))
    exact fin_2 ⟨rfl, xG.app _⟩
  have ec : ckMap l = ckGo (-1, -1) 0 l := by unfold ckMap; rw [if_neg h2, if_neg h20]
  ((repeat (first | refine ya (by (with_reducible constructor) <;> first | rfl | decide) ?_ | apply yb | refine yc rfl ?_ | ((first | apply yd | apply ye); simp (disch := first | exact yn | omega | (simp only [go_sem]; done) | (simp only [ln, ym]; omega) | (repeat' first | assumption | exact yo _ | refine yp ?_ _)) only [go_sem, dec_t (show (2 : Int) ≤ (l.length : Int) by omega), dec_t (show (l.length : Int) ≤ 20 by omega), ite_tt, firstErr_z, firstErr_nil]; with_reducible rfl))))
  refine cond_f rfl ?_
  have x2 : Ext G (G ++ [AObj.cells true 1 [.int .i64 0, .int .i64 0]]) := (Ext.refl G).app _
  generalize (G ++ [AObj.cells true 1 [.int .i64 0, .int .i64 0]] : AHeap) = G2 at x2
  have xH2 := xG.trans x2
  have hl2 := hl.ext xH2
  have k0 := at_app (N := [AObj.cells true 0 [.int .i64 (-1), .int .i64 (-1)]]) (x2.cell g0)
  have k5 : (G2 ++ [AObj.cells true 0 [.int .i64 (-1), .int .i64 (-1)]])[G2.length]? = some (.cells true 0 [.int .i64 (-1), .int .i64 (-1)]) := at_new
  have x3 : Ext G2 (G2 ++ [AObj.cells true 0 [.int .i64 (-1), .int .i64 (-1)]]) := (Ext.refl G2).app _
  have hl3 := hl2.ext x3
  ((repeat (first | refine ya (by (with_reducible constructor) <;> first | rfl | decide) ?_ | apply yb | refine yc rfl ?_ | ((first | apply yd | apply ye); simp (disch := first | exact yn | omega | (simp only [go_sem]; done) | (simp only [ln, ym]; omega) | (repeat' first | assumption | exact yo _ | refine yp ?_ _)) only [go_sem, hl3.len, hl3.idx, hl3.load, fill2i, store_new2, load_at k0]; with_reducible rfl))))
  have l3 : (G2 ++ [AObj.cells true 0 [.int .i64 (-1), .int .i64 (-1)]]).length = G2.length + 1 := by simp
  generalize (G2 ++ [AObj.cells true 0 [.int .i64 (-1), .int .i64 (-1)]] : AHeap) = G3 at k0 k5 x3 hl3 l3
  refine awp_loop_n [false, true, false, false, false, true, false, false, false, false, false, false, false, false, false, false, false, false, false, false, false, false, false, false, false, false, true, true, true, false, false, false, false, false, false, false, false, false, false, false, false, false, false, false, false, false, false, false, false, false, false, false, false, false, false, false, false, false, false, false, false, false, false] l.length (fun i e H' => e = [junk, .pointer (some ⟨H.length, 0, none⟩), junk, junk, junk, .pointer (some ⟨G2.length, 0, none⟩), junk, junk, junk, junk, junk, junk, junk, junk, junk, junk, junk, junk, junk, junk, junk, junk, junk, junk, junk, junk, v, .int .i64 (l.length : Nat), .int .i64 i, junk, junk, junk, junk, junk, junk, junk, junk, junk, junk, junk, junk, junk, junk, junk, junk, junk, junk, junk, junk, junk, junk, junk, junk, junk, junk, junk, junk, junk, junk, junk, junk, junk, junk] ∧ Keeps G2.length G3 H' ∧ H'[G2.length]? = some (.cells true 0 [.int .i64 (prevAt l i).1, .int .i64 (prevAt l i).2]) ∧ ∀ j, j < i → nodeE (prevAt l j) (l.getD j (0, 0)) = 0) ?_ ?_
  · exact ⟨by simp [forget], Keeps.of_ext (Ext.refl _), k5, fun j hj => by omega⟩
  rintro i e H' hi ⟨rfl, hK, b5, hj⟩
  have xK := hK.ext x3 (Nat.le_refl _)
  have xK2 := xH2.trans xK
  have hll := hl.ext xK2
  have ec2 := ckGo_from hj hi
  rw [← ec] at ec2
  ((repeat (first | refine ya (by (with_reducible constructor) <;> first | rfl | decide) ?_ | apply yb | refine yc rfl ?_ | ((first | apply yd | apply ye); simp (disch := first | exact yn | omega | (simp only [go_sem]; done) | (simp only [ln, ym]; omega) | (repeat' first | assumption | exact yo _ | refine yp ?_ _)) only [go_sem]; with_reducible rfl))))
  refine cond_p rfl (fun hlt => ?_) (fun hge => ?_)
  rotate_left 1
  · obtain rfl : i = l.length := by omega
    rw [ckGo_end] at ec2
    ((repeat (first | refine ya (by (with_reducible constructor) <;> first | rfl | decide) ?_ | apply yb | refine yc rfl ?_ | ((first | apply yd | apply ye); simp (disch := first | exact yn | omega | (simp only [go_sem]; done) | (simp only [ln, ym]; omega) | (repeat' first | assumption | exact yo _ | refine yp ?_ _)) only [go_sem]; with_reducible rfl))))
    exact fin_2 ⟨by rw [ec2]; rfl, xK2⟩
  have hi' : i < l.length := by omega
  have e1 : (G2 ++ ([] : AHeap)).length = G2.length := by simp
  (repeat (first | refine ya (by (with_reducible constructor) <;> first | rfl | decide) ?_ | (apply yd; simp (disch := first | exact yn | omega | (simp only [go_sem]; done) | (simp only [ln, ym]; omega) | (repeat' first | assumption | exact yo _ | refine yp ?_ _)) only [go_sem, hll.len, hll.idx, hll.load, store_new2]; with_reducible rfl)))
  have b7 : (H' ++ [AObj.cells true 0 [.int .i64 (l.getD i (0, 0)).1, .int .i64 (l.getD i (0, 0)).2]])[H'.length]? = some (.cells true 0 [.int .i64 (l.getD i (0, 0)).1, .int .i64 (l.getD i (0, 0)).2]) := at_new
  have b5 := at_app (N := [AObj.cells true 0 [.int .i64 (l.getD i (0, 0)).1, .int .i64 (l.getD i (0, 0)).2]]) b5
  have hK := hK.app [AObj.cells true 0 [.int .i64 (l.getD i (0, 0)).1, .int .i64 (l.getD i (0, 0)).2]]
  have xK2 := xK2.app [AObj.cells true 0 [.int .i64 (l.getD i (0, 0)).1, .int .i64 (l.getD i (0, 0)).2]]
  have l7 := hK.1
  generalize (H' ++ [AObj.cells true 0 [.int .i64 (l.getD i (0, 0)).1, .int .i64 (l.getD i (0, 0)).2]] : AHeap) = H1 at b7 b5 hK xK2 l7
  refine awp_mid [false, true, false, false, false, true, true, true, true, false, false, false, false, false, false, false, false, false, false, false, false, false, false, false, false, false, true, true, true, false, false, false, false, false, false, false, false, false, false, false, false, false, false, false, false, false, false, false, false, false, false, false, false, false, false, false, false, false, false, false, false, false, false] (fun e J => (∃ N, J = H1 ++ N) ∧ e = [junk, .pointer (some ⟨H.length, 0, none⟩), junk, junk, junk, .pointer (some ⟨G2.length, 0, none⟩), .int .i64 i, .pointer (some ⟨H'.length, 0, none⟩), .int .i64 (nodeE (prevAt l i) (l.getD i (0, 0))), junk, junk, junk, junk, junk, junk, junk, junk, junk, junk, junk, junk, junk, junk, junk, junk, junk, v, .int .i64 (l.length : Nat), .int .i64 i, junk, junk, junk, junk, junk, junk, junk, junk, junk, junk, junk, junk, junk, junk, junk, junk, junk, junk, junk, junk, junk, junk, junk, junk, junk, junk, junk, junk, junk, junk, junk, junk, junk, junk]) ?_ ?_
  · generalize l.getD i (0, 0) = n at *
    generalize prevAt l i = p at *
    ((repeat (first | refine ya (by (with_reducible constructor) <;> first | rfl | decide) ?_ | apply yb | refine yc rfl ?_ | ((first | apply yd | apply ye); simp (disch := first | exact yn | omega | (simp only [go_sem]; done) | (simp only [ln, ym]; omega) | (repeat' first | assumption | exact yo _ | refine yp ?_ _)) only [go_sem, load_at b7]; with_reducible rfl))))
    refine adraw_call (N := []) (firstD (isPosition_c _)) ?_
    rw [List.append_nil]
    by_cases hp : 0 ≤ n.1 ∧ n.1 ≤ 1000000
    · ((repeat (first | refine ya (by (with_reducible constructor) <;> first | rfl | decide) ?_ | apply yb | refine yc rfl ?_ | ((first | apply yd | apply ye); simp (disch := first | exact yn | omega | (simp only [go_sem]; done) | (simp only [ln, ym]; omega) | (repeat' first | assumption | exact yo _ | refine yp ?_ _)) only [go_sem, dec_t hp, load_at b7]; with_reducible rfl))))
      refine adraw_call (N := []) (firstD (isTime_c _)) ?_
      rw [List.append_nil]
      ((repeat (first | refine ya (by (with_reducible constructor) <;> first | rfl | decide) ?_ | apply yb | refine yc rfl ?_ | ((first | apply yd | apply ye); simp (disch := first | exact yn | omega | (simp only [go_sem]; done) | (simp only [ln, ym]; omega) | (repeat' first | assumption | exact yo _ | refine yp ?_ _)) only [go_sem, dec_t hp]; with_reducible rfl))))
      refine adraw_call (N := []) (firstD (sunless_c _ _)) ?_
      rw [List.append_nil]
      by_cases hq : p.1 < n.1
      · ((repeat (first | refine ya (by (with_reducible constructor) <;> first | rfl | decide) ?_ | apply yb | refine yc rfl ?_ | ((first | apply yd | apply ye); simp (disch := first | exact yn | omega | (simp only [go_sem]; done) | (simp only [ln, ym]; omega) | (repeat' first | assumption | exact yo _ | refine yp ?_ _)) only [go_sem, load_at b7, load_at b5, dec_t hq]; with_reducible rfl))))
        refine adraw_call (N := []) (firstD (sunless_c _ _)) ?_
        rw [List.append_nil]
        ((repeat (first | refine ya (by (with_reducible constructor) <;> first | rfl | decide) ?_ | apply yb | refine yc rfl ?_ | ((first | apply yd | apply ye); simp (disch := first | exact yn | omega | (simp only [go_sem]; done) | (simp only [ln, ym]; omega) | (repeat' first | assumption | exact yo _ | refine yp ?_ _)) only [go_sem, dec_t hq]; with_reducible rfl))))
        refine adraw_call (N := []) (firstD (sfirst_c (l := [_, _]) (Ints.last (l := [_, _]) 2) (by simp))) ?_
        rw [List.append_nil]
        ((repeat (first | refine ya (by (with_reducible constructor) <;> first | rfl | decide) ?_ | apply yb | refine yc rfl ?_ | ((first | apply yd | apply ye); simp (disch := first | exact yn | omega | (simp only [go_sem]; done) | (simp only [ln, ym]; omega) | (repeat' first | assumption | exact yo _ | refine yp ?_ _)) only [go_sem]; with_reducible rfl))))
        refine ⟨rfl, ⟨_, rfl⟩, ?_⟩
        first | (simp [forget, ← node_E, hp, hq]; done) | simp [forget, ← node_E, hp, hq, firstErr]
      · ((repeat (first | refine ya (by (with_reducible constructor) <;> first | rfl | decide) ?_ | apply yb | refine yc rfl ?_ | ((first | apply yd | apply ye); simp (disch := first | exact yn | omega | (simp only [go_sem]; done) | (simp only [ln, ym]; omega) | (repeat' first | assumption | exact yo _ | refine yp ?_ _)) only [go_sem, load_at b7, load_at b5, dec_f hq]; with_reducible rfl))))
        refine adraw_call (N := []) (firstD (sunless_c _ _)) ?_
        rw [List.append_nil]
        ((repeat (first | refine ya (by (with_reducible constructor) <;> first | rfl | decide) ?_ | apply yb | refine yc rfl ?_ | ((first | apply yd | apply ye); simp (disch := first | exact yn | omega | (simp only [go_sem]; done) | (simp only [ln, ym]; omega) | (repeat' first | assumption | exact yo _ | refine yp ?_ _)) only [go_sem, dec_f hq]; with_reducible rfl))))
        refine adraw_call (N := []) (firstD (sfirst_c (l := [_, _]) (Ints.last (l := [_, _]) 2) (by simp))) ?_
        rw [List.append_nil]
        ((repeat (first | refine ya (by (with_reducible constructor) <;> first | rfl | decide) ?_ | apply yb | refine yc rfl ?_ | ((first | apply yd | apply ye); simp (disch := first | exact yn | omega | (simp only [go_sem]; done) | (simp only [ln, ym]; omega) | (repeat' first | assumption | exact yo _ | refine yp ?_ _)) only [go_sem]; with_reducible rfl))))
        refine ⟨rfl, ⟨_, rfl⟩, ?_⟩
        first | (simp [forget, ← node_E, hp, hq]; done) | simp [forget, ← node_E, hp, hq, firstErr]
    · ((repeat (first | refine ya (by (with_reducible constructor) <;> first | rfl | decide) ?_ | apply yb | refine yc rfl ?_ | ((first | apply yd | apply ye); simp (disch := first | exact yn | omega | (simp only [go_sem]; done) | (simp only [ln, ym]; omega) | (repeat' first | assumption | exact yo _ | refine yp ?_ _)) only [go_sem, dec_f hp]; with_reducible rfl))))
      refine adraw_call (N := []) (firstD (sunless_c _ _)) ?_
      rw [List.append_nil]
      by_cases hq : p.1 < n.1
      · ((repeat (first | refine ya (by (with_reducible constructor) <;> first | rfl | decide) ?_ | apply yb | refine yc rfl ?_ | ((first | apply yd | apply ye); simp (disch := first | exact yn | omega | (simp only [go_sem]; done) | (simp only [ln, ym]; omega) | (repeat' first | assumption | exact yo _ | refine yp ?_ _)) only [go_sem, load_at b7, load_at b5, dec_t hq]; with_reducible rfl))))
        refine adraw_call (N := []) (firstD (sunless_c _ _)) ?_
        rw [List.append_nil]
        ((repeat (first | refine ya (by (with_reducible constructor) <;> first | rfl | decide) ?_ | apply yb | refine yc rfl ?_ | ((first | apply yd | apply ye); simp (disch := first | exact yn | omega | (simp only [go_sem]; done) | (simp only [ln, ym]; omega) | (repeat' first | assumption | exact yo _ | refine yp ?_ _)) only [go_sem, dec_t hq]; with_reducible rfl))))
        refine adraw_call (N := []) (firstD (sfirst_c (l := [_, _]) (Ints.last (l := [_, _]) 2) (by simp))) ?_
        rw [List.append_nil]
        ((repeat (first | refine ya (by (with_reducible constructor) <;> first | rfl | decide) ?_ | apply yb | refine yc rfl ?_ | ((first | apply yd | apply ye); simp (disch := first | exact yn | omega | (simp only [go_sem]; done) | (simp only [ln, ym]; omega) | (repeat' first | assumption | exact yo _ | refine yp ?_ _)) only [go_sem]; with_reducible rfl))))
        refine ⟨rfl, ⟨_, rfl⟩, ?_⟩
        first | (simp [forget, ← node_E, hp, hq]; done) | simp [forget, ← node_E, hp, hq, firstErr]
      · ((repeat (first | refine ya (by (with_reducible constructor) <;> first | rfl | decide) ?_ | apply yb | refine yc rfl ?_ | ((first | apply yd | apply ye); simp (disch := first | exact yn | omega | (simp only [go_sem]; done) | (simp only [ln, ym]; omega) | (repeat' first | assumption | exact yo _ | refine yp ?_ _)) only [go_sem, load_at b7, load_at b5, dec_f hq]; with_reducible rfl))))
        refine adraw_call (N := []) (firstD (sunless_c _ _)) ?_
        rw [List.append_nil]
        ((repeat (first | refine ya (by (with_reducible constructor) <;> first | rfl | decide) ?_ | apply yb | refine yc rfl ?_ | ((first | apply yd | apply ye); simp (disch := first | exact yn | omega | (simp only [go_sem]; done) | (simp only [ln, ym]; omega) | (repeat' first | assumption | exact yo _ | refine yp ?_ _)) only [go_sem, dec_f hq]; with_reducible rfl))))
        refine adraw_call (N := []) (firstD (sfirst_c (l := [_, _]) (Ints.last (l := [_, _]) 2) (by simp))) ?_
        rw [List.append_nil]
        ((repeat (first | refine ya (by (with_reducible constructor) <;> first | rfl | decide) ?_ | apply yb | refine yc rfl ?_ | ((first | apply yd | apply ye); simp (disch := first | exact yn | omega | (simp only [go_sem]; done) | (simp only [ln, ym]; omega) | (repeat' first | assumption | exact yo _ | refine yp ?_ _)) only [go_sem]; with_reducible rfl))))
        refine ⟨rfl, ⟨_, rfl⟩, ?_⟩
        first | (simp [forget, ← node_E, hp, hq]; done) | simp [forget, ← node_E, hp, hq, firstErr]
  rintro e J ⟨⟨N, rfl⟩, rfl⟩
  have b7 := at_app (N := N) b7
  have b5 := at_app (N := N) b5
  have hK := hK.app N
  have xK2 := xK2.app N
  by_cases he : nodeE (prevAt l i) (l.getD i (0, 0)) = 0
  · ((repeat (first | refine ya (by (with_reducible constructor) <;> first | rfl | decide) ?_ | apply yb | refine yc rfl ?_ | ((first | apply yd | apply ye); simp (disch := first | exact yn | omega | (simp only [go_sem]; done) | (simp only [ln, ym]; omega) | (repeat' first | assumption | exact yo _ | refine yp ?_ _)) only [go_sem, dec_f (show ¬ nodeE (prevAt l i) (l.getD i (0, 0)) ≠ 0 by rw [he]; simp)]; with_reducible rfl))))
    refine cond_f rfl ?_
    ((repeat (first | refine ya (by (with_reducible constructor) <;> first | rfl | decide) ?_ | apply yb | refine yc rfl ?_ | ((first | apply yd | apply ye); simp (disch := first | exact yn | omega | (simp only [go_sem]; done) | (simp only [ln, ym]; omega) | (repeat' first | assumption | exact yo _ | refine yp ?_ _)) only [go_sem, n2_at b7, store_b2 b5]; with_reducible rfl))))
    refine ⟨by omega, by simp [forget], hK.set (.inl rfl) _, ?_, fun j hj2 => ?_⟩
    · rw [prevAt_succ]; exact get_set_self b5
    · by_cases e : j = i
      · subst e; exact he
      · exact hj j (by omega)
  · rw [ckGo_at hi', if_pos he] at ec2
    ((repeat (first | refine ya (by (with_reducible constructor) <;> first | rfl | decide) ?_ | apply yb | refine yc rfl ?_ | ((first | apply yd | apply ye); simp (disch := first | exact yn | omega | (simp only [go_sem]; done) | (simp only [ln, ym]; omega) | (repeat' first | assumption | exact yo _ | refine yp ?_ _)) only [go_sem, dec_t (show nodeE (prevAt l i) (l.getD i (0, 0)) ≠ 0 from he)]; with_reducible rfl))))
    refine cond_t rfl ?_
    ((repeat (first | refine ya (by (with_reducible constructor) <;> first | rfl | decide) ?_ | apply yb | refine yc rfl ?_ | ((first | apply yd | apply ye); simp (disch := first | exact yn | omega | (simp only [go_sem]; done) | (simp only [ln, ym]; omega) | (repeat' first | assumption | exact yo _ | refine yp ?_ _)) only [go_sem]; with_reducible rfl))))
    exact fin_2 ⟨by rw [ec2]; rfl, xK2⟩
end
end Go.Lq

namespace Go.Lq
open Go
open Go.Proofs

section
variable {H : AHeap}
set_option maxHeartbeats 4000000 in
theorem spMapErr_c {l : List (Int × Int)} {s v : Value} (hv : Sl H 1 1 [s] v) (hl : Pairs H l s) (hb : l.length ≤ 1000000000) : ACall Go.Proofs.Tryd.prog 106 [v] H fun w H' => w = .int .i64 (mapErrL l) ∧ H' = H := by
  refine ACall.drop (.int _ _) ?_
  (refine a106 ?_; simp only [n106, List.replicate, yq, yr, yt, yu]; first | refine q1 ?_ | refine q2 ?_ | refine q6 ?_ | refine q7 ?_ | refine qh rfl ?_ | skip)
  ((repeat (first | refine ya (by (with_reducible constructor) <;> first | rfl | decide) ?_ | apply yb | refine yc rfl ?_ | ((first | apply yd | apply ye); simp (disch := first | exact yn | omega | (simp only [go_sem]; done) | (simp only [ln, ym]; omega) | (repeat' first | assumption | exact yo _ | refine yp ?_ _)) only [go_sem, hv.len]; with_reducible rfl))))
  refine awp_loop_n [false, false, false, false, false, false, false, true, true, true, false, false, false, false, false, false, false, false, false, false, false, false] 1 (fun i e H' => Ext H H' ∧ (i = 1 → mapErrL l = 0) ∧ e = [junk, junk, junk, junk, junk, junk, junk, v, .int .i64 ((1 : Nat) : Int), .int .i64 i, junk, junk, junk, junk, junk, junk, junk, junk, junk, junk, junk, junk]) ?_ ?_
  · exact ⟨Ext.refl _, fun h => by omega, by simp [forget]⟩
  rintro i e H' hi ⟨x1, hz, rfl⟩
  ((repeat (first | refine ya (by (with_reducible constructor) <;> first | rfl | decide) ?_ | apply yb | refine yc rfl ?_ | ((first | apply yd | apply ye); simp (disch := first | exact yn | omega | (simp only [go_sem]; done) | (simp only [ln, ym]; omega) | (repeat' first | assumption | exact yo _ | refine yp ?_ _)) only [go_sem]; with_reducible rfl))))
  refine cond_p rfl (fun hlt => ?_) (fun hge => ?_)
  rotate_left 1
  · obtain rfl : i = 1 := by omega
    ((repeat (first | refine ya (by (with_reducible constructor) <;> first | rfl | decide) ?_ | apply yb | refine yc rfl ?_ | ((first | apply yd | apply ye); simp (disch := first | exact yn | omega | (simp only [go_sem]; done) | (simp only [ln, ym]; omega) | (repeat' first | assumption | exact yo _ | refine yp ?_ _)) only [go_sem]; with_reducible rfl))))
    exact fin_1 ⟨by rw [hz rfl]; rfl, x1⟩
  obtain rfl : i = 0 := by omega
  have h1 : ∀ J : AHeap, idxR 1 v (.int .i64 ((0 : Nat) : Int)) J = some (addrOf v 0, J) := fun J => by
    have := hv.idx (i := 0) (k := .i64) (H' := J) (by omega) (by omega)
    simpa using this
  have h2 : loadNR 1 (addrOf v 0) H' = some (.agg ⟨[s]⟩, H') := by
    have := Sl.loadN (k := 0) (m := 1) hv x1 (by omega) (by omega)
    simpa using this
  have hst : storeR 1 (.pointer (some ⟨H'.length, 0, none⟩)) (.agg ⟨[s]⟩) (H' ++ [AObj.cells true 0 [.slice none 0 0]]) = some (undef, H' ++ [AObj.cells true 0 [s]]) := store_newN (by simp [hl.atom]) rfl rfl
  have b4 : (H' ++ [AObj.cells true 0 [s]])[H'.length]? = some (.cells true 0 [s]) := at_new
  have x2 := x1.app [AObj.cells true 0 [s]]
  ((repeat (first | refine ya (by (with_reducible constructor) <;> first | rfl | decide) ?_ | apply yb | refine yc rfl ?_ | ((first | apply yd | apply ye); simp (disch := first | exact yn | omega | (simp only [go_sem]; done) | (simp only [ln, ym]; omega) | (repeat' first | assumption | exact yo _ | refine yp ?_ _)) only [go_sem, h1, h2, hst, n1_at b4]; with_reducible rfl))))
  refine aops_call_to (spCheckMap_c (hl.ext x2) hb) ?_
  ((repeat (first | refine ya (by (with_reducible constructor) <;> first | rfl | decide) ?_ | apply yb | refine yc rfl ?_ | ((first | apply yd | apply ye); simp (disch := first | exact yn | omega | (simp only [go_sem]; done) | (simp only [ln, ym]; omega) | (repeat' first | assumption | exact yo _ | refine yp ?_ _)) only [go_sem]; with_reducible rfl))))
  refine cond_p rfl (fun hne => ?_) (fun heq => ?_)
  · ((repeat (first | refine ya (by (with_reducible constructor) <;> first | rfl | decide) ?_ | apply yb | refine yc rfl ?_ | ((first | apply yd | apply ye); simp (disch := first | exact yn | omega | (simp only [go_sem]; done) | (simp only [ln, ym]; omega) | (repeat' first | assumption | exact yo _ | refine yp ?_ _)) only [go_sem]; with_reducible rfl))))
    exact fin_1 ⟨rfl, x2⟩
  · ((repeat (first | refine ya (by (with_reducible constructor) <;> first | rfl | decide) ?_ | apply yb | refine yc rfl ?_ | ((first | apply yd | apply ye); simp (disch := first | exact yn | omega | (simp only [go_sem]; done) | (simp only [ln, ym]; omega) | (repeat' first | assumption | exact yo _ | refine yp ?_ _)) only [go_sem]; with_reducible rfl))))
    exact ⟨by omega, x2, fun _ => Decidable.not_not.1 heq, by simp [forget]⟩

end
end Go.Lq

namespace Go.Lq
open Go
open Go.Proofs

def pieceV (p : (Int × Int) × (Int × Int)) : Value := .agg ⟨[.int .i64 p.1.1, .int .i64 p.1.2, .int .i64 p.2.1, .int .i64 p.2.2]⟩
def pieceC (p : (Int × Int) × (Int × Int)) : List Value := [.int .i64 p.1.1, .int .i64 p.1.2, .int .i64 p.2.1, .int .i64 p.2.2]
def piecesI (l : List (Int × Int)) (i : Nat) : Nat → List (List Value)
  | 0 => []
  | k + 1 => [.int .i64 i, pieceV (pieceOf l i)] :: piecesI l (i + 1) k
theorem box_piece {p : (Int × Int) × (Int × Int)} {H : AHeap} : boxR (pieceV p) H = some (.pointer (some ⟨H.length, 0, none⟩), H ++ [.cells true 0 (pieceC p)]) := box_agg rfl
theorem load_piece {G : AHeap} {id : Nat} {p : (Int × Int) × (Int × Int)} (h : G[id]? = some (.cells true 0 (pieceC p))) : loadNR 4 (.pointer (some ⟨id, 0, none⟩)) G = some (pieceV p, G) := loadN_at h (by simp [pieceC])
theorem store_new4 {H : AHeap} {p : (Int × Int) × (Int × Int)} {vs : List Value} (hl : vs.length = 4) : storeR 4 (.pointer (some ⟨H.length, 0, none⟩)) (pieceV p) (H ++ [.cells true 0 vs]) = some (undef, H ++ [.cells true 0 (pieceC p)]) := store_newN rfl (by rw [hl]; rfl) rfl
theorem store_at4 {H : AHeap} {id : Nat} {p q : (Int × Int) × (Int × Int)} (h : H[id]? = some (.cells true 0 (pieceC q))) : storeR 4 (.pointer (some ⟨id, 0, none⟩)) (pieceV p) H = some (undef, H.set id (.cells true 0 (pieceC p))) := by
  have e1 : (pieceV p).cells = ⟨pieceC p⟩ := rfl
  have e2 : (pieceC p).all isAtom = true := rfl
  simp only [storeR, e1, List.size_toArray, storeAt, h, e2]
  rfl
theorem piece_build {a b : Int × Int} : fillA [.int .i64 0, .int .i64 0, .int .i64 0, .int .i64 0] [(0, 2, .agg ⟨[.int .i64 a.1, .int .i64 a.2]⟩), (2, 2, .agg ⟨[.int .i64 b.1, .int .i64 b.2]⟩)] = some [.int .i64 a.1, .int .i64 a.2, .int .i64 b.1, .int .i64 b.2] := rfl
theorem fin_ll {c : RCode} {n a b m : Nat} {R : Value → AHeap → Prop} {e : Env} {H : AHeap} {u w : Value} (h1 : loadNR m (e.getD a undef) H = some (u, H)) (h2 : loadR (e.getD b undef) H = some (w, H)) (h : R (.tuple #[u, w]) H) :
    Fin ⟨c, n, [.loadN m a, .load b]⟩ R .ret e H := by
  refine ⟨.inr rfl, _, ?_, h⟩
  unfold loadNR at h1
  unfold loadR at h2
  split at h1
  · rename_i id off hp
    simp only [Option.map_eq_some_iff, Prod.mk.injEq, and_true] at h1
    obtain ⟨us, h3, rfl⟩ := h1
    split at h2
    · rename_i id' off' hp'
      simp only [Option.map_eq_some_iff, Prod.mk.injEq, and_true] at h2
      obtain ⟨us', h4, rfl⟩ := h2
      simp only [resultA, List.mapM_cons, resA, hp, h3, hp', h4, Option.map_some, List.mapM_nil]
      rfl
    · cases h2
  · cases h1

section
variable {H : AHeap}
theorem positions_c {p : (Int × Int) × (Int × Int)} (h : -1000000000000000 ≤ p.2.1 - p.1.1 ∧ p.2.1 - p.1.1 ≤ 1000000000000000) : ACall Go.Proofs.Tryd.prog 110 [pieceV p] H fun v H' => v = .int .i64 (p.2.1 - p.1.1) ∧ H' = H := by
  refine ACall.drop (.int _ _) ?_
  (refine a110 ?_; simp only [n110, List.replicate, yq, yr, yt, yu]; first | refine q1 ?_ | refine q2 ?_ | refine q6 ?_ | refine q7 ?_ | refine qh rfl ?_ | skip)
  have g0 : (H ++ [AObj.cells true 0 (pieceC p)])[H.length]? = some (.cells true 0 (pieceC p)) := at_new
  have xG : Ext H (H ++ [AObj.cells true 0 (pieceC p)]) := (Ext.refl H).app _
  ((repeat (first | refine ya (by (with_reducible constructor) <;> first | rfl | decide) ?_ | apply yb | refine yc rfl ?_ | ((first | apply yd | apply ye); simp (disch := first | exact yn | omega | (simp only [go_sem]; done) | (simp only [ln, ym]; omega) | (repeat' first | assumption | exact yo _ | refine yp ?_ _)) only [go_sem, box_piece, load_at g0, pieceC]; with_reducible rfl))))
  exact fin_1 ⟨rfl, xG⟩
theorem times_c {p : (Int × Int) × (Int × Int)} (h : -1000000000000000 ≤ p.2.2 - p.1.2 ∧ p.2.2 - p.1.2 ≤ 1000000000000000) : ACall Go.Proofs.Tryd.prog 142 [pieceV p] H fun v H' => v = .int .i64 (p.2.2 - p.1.2) ∧ H' = H := by
  refine ACall.drop (.int _ _) ?_
  (refine a142 ?_; simp only [n142, List.replicate, yq, yr, yt, yu]; first | refine q1 ?_ | refine q2 ?_ | refine q6 ?_ | refine q7 ?_ | refine qh rfl ?_ | skip)
  have g0 : (H ++ [AObj.cells true 0 (pieceC p)])[H.length]? = some (.cells true 0 (pieceC p)) := at_new
  have xG : Ext H (H ++ [AObj.cells true 0 (pieceC p)]) := (Ext.refl H).app _
  ((repeat (first | refine ya (by (with_reducible constructor) <;> first | rfl | decide) ?_ | apply yb | refine yc rfl ?_ | ((first | apply yd | apply ye); simp (disch := first | exact yn | omega | (simp only [go_sem]; done) | (simp only [ln, ym]; omega) | (repeat' first | assumption | exact yo _ | refine yp ?_ _)) only [go_sem, box_piece, load_at g0, pieceC]; with_reducible rfl))))
  exact fin_1 ⟨rfl, xG⟩
theorem pieces_c {l : List (Int × Int)} {v : Value} (hl : Pairs H l v) : ACall Go.Proofs.Tryd.prog 149 [.agg ⟨[v]⟩] H fun v1 H' =>
    v1 = .func (.func 153) #[] #[.pointer (some ⟨H.length, 0, none⟩)] ∧ H' = H ++ [.cells true 0 [v]] := by
  (refine a149 ?_; simp only [n149, List.replicate, yq, yr, yt, yu]; first | refine q1 ?_ | refine q2 ?_ | refine q6 ?_ | refine q7 ?_ | refine qh rfl ?_ | skip)
  ((repeat (first | refine ya (by (with_reducible constructor) <;> first | rfl | decide) ?_ | apply yb | refine yc rfl ?_ | ((first | apply yd | apply ye); simp (disch := first | exact yn | omega | (simp only [go_sem]; done) | (simp only [ln, ym]; omega) | (repeat' first | assumption | exact yo _ | refine yp ?_ _)) only [go_sem, hl.box1]; with_reducible rfl))))
  refine fin_1 ⟨?_, rfl⟩
  simp [go_sem]
def PieceF (idt : Nat) (l : List (Int × Int)) (v : Value) (H : AHeap) : Prop := H[idt]? = some (.cells true 0 [v]) ∧ Pairs H l v
set_option maxHeartbeats 4000000 in
theorem pieces1_c {idt : Nat} {l : List (Int × Int)} {v : Value} (h2 : 1 ≤ l.length) (hb : l.length ≤ 1000) :
    GenA Go.Proofs.Tryd.prog 153 [] [.pointer (some ⟨idt, 0, none⟩)] (PieceF idt l v) (piecesI l 0 (l.length - 1)) := by
  intro lp I S H hF hround hI0
  show ACall _ _ [.func (.yield lp) #[] #[], .pointer (some ⟨idt, 0, none⟩)] _ _
  obtain ⟨f1, f2⟩ := hF _ _ hI0
  (refine a153 ?_; simp only [n153, List.replicate, yq, yr, yt, yu]; first | refine q1 ?_ | refine q2 ?_ | refine q6 ?_ | refine q7 ?_ | refine qh rfl ?_ | skip)
  obtain ⟨n, hn⟩ : ∃ n, l.length - 1 = n := ⟨_, rfl⟩
  have en : (l.length : Int) - 1 = (n : Int) := by omega
  rw [hn] at hI0
  ((repeat (first | refine ya (by (with_reducible constructor) <;> first | rfl | decide) ?_ | apply yb | refine yc rfl ?_ | ((first | apply yd | apply ye); simp (disch := first | exact yn | omega | (simp only [go_sem]; done) | (simp only [ln, ym]; omega) | (repeat' first | assumption | exact yo _ | refine yp ?_ _)) only [go_sem, f2.len, f2.idx, f2.load, load_at f1, en]; with_reducible rfl))))
  refine awp_loop_n [true, true, false, false, false, false, false, true, true, false, false, false, false, false, false, false, false, false, false, false, false, false, false, false, false, false, false, false] n (fun i e H' => e = [.func (.yield lp) #[] #[], .pointer (some ⟨idt, 0, none⟩), junk, junk, junk, junk, junk, .int .i64 n, .int .i64 i, junk, junk, junk, junk, junk, junk, junk, junk, junk, junk, junk, junk, junk, junk, junk, junk, junk, junk, junk] ∧ I (piecesI l i (n - i)) H') ?_ ?_
  · exact ⟨by simp [forget], hI0⟩
  rintro i e H1 hi ⟨rfl, hI⟩
  obtain ⟨f1', f2'⟩ := hF _ _ hI
  ((repeat (first | refine ya (by (with_reducible constructor) <;> first | rfl | decide) ?_ | apply yb | refine yc rfl ?_ | ((first | apply yd | apply ye); simp (disch := first | exact yn | omega | (simp only [go_sem]; done) | (simp only [ln, ym]; omega) | (repeat' first | assumption | exact yo _ | refine yp ?_ _)) only [go_sem]; with_reducible rfl))))
  refine cond_p rfl (fun hlt => ?_) (fun hge => ?_)
  rotate_left 1
  · obtain rfl : i = n := by omega
    rw [Nat.sub_self] at hI
    ((repeat (first | refine ya (by (with_reducible constructor) <;> first | rfl | decide) ?_ | apply yb | refine yc rfl ?_ | ((first | apply yd | apply ye); simp (disch := first | exact yn | omega | (simp only [go_sem]; done) | (simp only [ln, ym]; omega) | (repeat' first | assumption | exact yo _ | refine yp ?_ _)) only [go_sem]; with_reducible rfl))))
    exact ⟨.inl rfl, undef, rfl, .inl hI⟩
  have hi' : i < n := by omega
  obtain ⟨k, hk⟩ : ∃ k, k = n - (i + 1) := ⟨_, rfl⟩
  rw [show n - i = k + 1 by omega] at hI
  have e1 : (i : Int) + 1 = ((i + 1 : Nat) : Int) := by omega
  ((repeat (first | refine ya (by (with_reducible constructor) <;> first | rfl | decide) ?_ | apply yb | refine yc rfl ?_ | ((first | apply yd | apply ye); simp (disch := first | exact yn | omega | (simp only [go_sem]; done) | (simp only [ln, ym]; omega) | (repeat' first | assumption | exact yo _ | refine yp ?_ _)) only [go_sem, f2'.len, f2'.idx, f2'.load, load_at f1', e1, piece_build]; with_reducible rfl))))
  refine adraw_callV ?_
  refine aops_call ((hround _ _ _ hI).mono fun v1 H3 h => ?_)
  rcases h with ⟨rfl, hI3⟩ | ⟨rfl, hS⟩
  · ((repeat (first | refine ya (by (with_reducible constructor) <;> first | rfl | decide) ?_ | apply yb | refine yc rfl ?_ | ((first | apply yd | apply ye); simp (disch := first | exact yn | omega | (simp only [go_sem]; done) | (simp only [ln, ym]; omega) | (repeat' first | assumption | exact yo _ | refine yp ?_ _)) only [go_sem]; with_reducible rfl))))
    refine cond_f rfl ?_
    ((repeat (first | refine ya (by (with_reducible constructor) <;> first | rfl | decide) ?_ | apply yb | refine yc rfl ?_ | ((first | apply yd | apply ye); simp (disch := first | exact yn | omega | (simp only [go_sem]; done) | (simp only [ln, ym]; omega) | (repeat' first | assumption | exact yo _ | refine yp ?_ _)) only [go_sem]; with_reducible rfl))))
    exact ⟨by omega, by simp [forget], by rw [← hk]; exact hI3⟩
  · ((repeat (first | refine ya (by (with_reducible constructor) <;> first | rfl | decide) ?_ | apply yb | refine yc rfl ?_ | ((first | apply yd | apply ye); simp (disch := first | exact yn | omega | (simp only [go_sem]; done) | (simp only [ln, ym]; omega) | (repeat' first | assumption | exact yo _ | refine yp ?_ _)) only [go_sem]; with_reducible rfl))))
    refine cond_t rfl ?_
    ((repeat (first | refine ya (by (with_reducible constructor) <;> first | rfl | decide) ?_ | apply yb | refine yc rfl ?_ | ((first | apply yd | apply ye); simp (disch := first | exact yn | omega | (simp only [go_sem]; done) | (simp only [ln, ym]; omega) | (repeat' first | assumption | exact yo _ | refine yp ?_ _)) only [go_sem]; with_reducible rfl))))
    exact ⟨.inr rfl, undef, rfl, .inr hS⟩
end
end Go.Lq
