/- Towards ResampleRemainders of seat YtlcfgealkjomnaaDoor: it returns true for every input. Made out of the proof's own texts, merged. -/
import Derived.Test.YtlcfgealkjomnaaDoorV131
set_option linter.unusedSimpArgs false
set_option maxRecDepth 100000
namespace Go.Lq

def remL (deg f : Int) : Int × Int := lowF (prodL deg f) (rdenL deg)
/-- The greatest size of the first products. -/
def maxTo (deg : Int) : Nat → Int
  | 0 => 0
  | j + 1 => max (max (maxTo deg j) (prodL deg j)) (0 - prodL deg j)
theorem maxTo_succ (deg : Int) (j : Nat) : maxTo deg (j + 1) = max (max (maxTo deg j) (prodL deg j)) (0 - prodL deg j) := rfl
theorem maxTo_bound {deg : Int} (hd : deg = 1 ∨ deg = 3) : ∀ j : Nat, j ≤ 64 → 0 ≤ maxTo deg j ∧ maxTo deg j ≤ 100000000
  | 0, _ => by simp [maxTo]
  | j + 1, h => by
    have ih := maxTo_bound hd j (by omega)
    have := kprod_bound hd (show 0 ≤ (j : Int) ∧ (j : Int) ≤ 63 by omega)
    unfold maxTo
    omega
def maxRemL (deg : Int) : Int × Int := lowF (maxTo deg 64) (rdenL deg)
theorem rden_pos {deg : Int} : 0 < rdenL deg ∧ rdenL deg ≤ 402653184 := by unfold rdenL; split <;> omega
theorem gcdI_neg (n d : Int) : gcdI (-n) d = gcdI n d := by unfold gcdI; rw [Int.neg_gcd]
theorem lowF_neg (n d : Int) : lowF (-n) d = (-(lowF n d).1, (lowF n d).2) := by
  unfold lowF
  rw [gcdI_neg]
  congr 1
  exact Int.neg_ediv_of_dvd (Int.gcd_dvd_left ..)
theorem lowF_zero {d : Int} (hd : 0 < d) : lowF 0 d = (0, 1) := by
  unfold lowF gcdI
  rw [Int.gcd_zero_left]
  have : ((d.natAbs : Nat) : Int) = d := by omega
  rw [this, Int.zero_ediv, Int.ediv_self (by omega)]
theorem lowF_size {n d : Int} : lowF (max n (-n)) d = (max (lowF n d).1 (-(lowF n d).1), (lowF n d).2) ∨ d ≤ 0 := by
  by_cases hd : 0 < d
  · left
    have hg := gcdI_pos (n := n) hd
    by_cases hn : 0 ≤ n
    · have h1 : 0 ≤ (lowF n d).1 := Int.ediv_nonneg hn (Int.le_of_lt hg)
      rw [show max n (-n) = n by omega, show max (lowF n d).1 (-(lowF n d).1) = (lowF n d).1 by omega]
    · have h1 : (lowF n d).1 ≤ 0 := by
        have := Int.mul_ediv_self_le (x := n) (k := gcdI n d) (by omega)
        have h2 : gcdI n d * (n / gcdI n d) ≤ gcdI n d * 0 := by omega
        exact Int.le_of_mul_le_mul_left h2 hg
      rw [show max n (-n) = -n by omega, lowF_neg, show max (lowF n d).1 (-(lowF n d).1) = -(lowF n d).1 by omega]
  · right; omega
/-- Fractions of one denominator, in lowest terms, compared. -/
theorem lowF_lt {m n d : Int} (hd : 0 < d) : (lowF m d).1 * (lowF n d).2 < (lowF n d).1 * (lowF m d).2 ↔ m < n := by
  have g1 := gcdI_pos (n := m) hd
  have g2 := gcdI_pos (n := n) hd
  obtain ⟨a1, a2⟩ := lowF_mul (n := m) (d := d)
  obtain ⟨b1, b2⟩ := lowF_mul (n := n) (d := d)
  generalize lowF m d = p at *
  generalize lowF n d = q at *
  generalize gcdI m d = g at *
  generalize gcdI n d = k at *
  have hgk : 0 < g * k := Int.mul_pos g1 g2
  have e1 : (g * k) * (p.1 * q.2) = m * d := by rw [show (g * k) * (p.1 * q.2) = (g * p.1) * (k * q.2) by ac_rfl, a1, b2]
  have e2 : (g * k) * (q.1 * p.2) = n * d := by rw [show (g * k) * (q.1 * p.2) = (k * q.1) * (g * p.2) by ac_rfl, b1, a2]
  constructor
  · intro h
    have := Int.mul_lt_mul_of_pos_left h hgk
    rw [e1, e2] at this
    exact Int.lt_of_mul_lt_mul_right this (Int.le_of_lt hd)
  · intro h
    have := Int.mul_lt_mul_of_pos_right h hd
    rw [← e1, ← e2] at this
    exact Int.lt_of_mul_lt_mul_left this (Int.le_of_lt hgk)

/-! ### Differences -/
def diffL (l : List Int) : List Int := (List.range (l.length - 1)).map fun i => l.getD (i + 1) 0 - l.getD i 0
theorem diffL_len (l : List Int) : (diffL l).length = l.length - 1 := by simp [diffL]
theorem diffL_getD {l : List Int} {i : Nat} (h : i + 1 < l.length) : (diffL l).getD i 0 = l.getD (i + 1) 0 - l.getD i 0 := by
  unfold diffL
  rw [List.getD_eq_getElem?_getD, List.getElem?_map, List.getElem?_range (by omega)]; rfl
def diffK (x : List Int) : Nat → List Int
  | 0 => x
  | k + 1 => diffL (diffK x k)
theorem diffK_len (x : List Int) : ∀ k, (diffK x k).length = x.length - k
  | 0 => rfl
  | k + 1 => by unfold diffK; rw [diffL_len, diffK_len x k]; omega
theorem diffL_bound {l : List Int} {B : Int} (h0 : 0 ≤ B) (h : ∀ i : Nat, -B ≤ l.getD i 0 ∧ l.getD i 0 ≤ B) : ∀ i : Nat, -(2 * B) ≤ (diffL l).getD i 0 ∧ (diffL l).getD i 0 ≤ 2 * B := fun i => by
  by_cases hi : i + 1 < l.length
  · rw [diffL_getD hi]
    have h1 := h (i + 1)
    have h2 := h i
    omega
  · rw [List.getD_eq_getElem?_getD, List.getElem?_eq_none (by rw [diffL_len]; omega)]
    simp; omega
theorem diffK_bound {x : List Int} (h : ∀ i : Nat, -32767 ≤ x.getD i 0 ∧ x.getD i 0 ≤ 32767) : ∀ k, k ≤ 4 → ∀ i : Nat, -1000000 ≤ (diffK x k).getD i 0 ∧ (diffK x k).getD i 0 ≤ 1000000 := by
  have h1 := diffL_bound (by omega) h
  have h2 := diffL_bound (by omega) h1
  have h3 := diffL_bound (by omega) h2
  have h4 := diffL_bound (by omega) h3
  intro k hk i
  match k, hk with
  | 0, _ => have := h i; show -1000000 ≤ x.getD i 0 ∧ x.getD i 0 ≤ 1000000; omega
  | 1, _ => have := h1 i; show -1000000 ≤ (diffL x).getD i 0 ∧ (diffL x).getD i 0 ≤ 1000000; omega
  | 2, _ => have := h2 i; show -1000000 ≤ (diffL (diffL x)).getD i 0 ∧ (diffL (diffL x)).getD i 0 ≤ 1000000; omega
  | 3, _ => have := h3 i; show -1000000 ≤ (diffL (diffL (diffL x))).getD i 0 ∧ (diffL (diffL (diffL x))).getD i 0 ≤ 1000000; omega
  | 4, _ => have := h4 i; show -1000000 ≤ (diffL (diffL (diffL (diffL x)))).getD i 0 ∧ (diffL (diffL (diffL (diffL x)))).getD i 0 ≤ 1000000; omega
/-- In place: the first i differences, the rest as it was. -/
def midD (l : List Int) (i : Nat) : List Int := (diffL l).take i ++ l.drop i
theorem midD_zero (l : List Int) : midD l 0 = l := by simp [midD]
theorem midD_len {l : List Int} {i : Nat} (h : i < l.length) : (midD l i).length = l.length := by
  unfold midD
  rw [List.length_append, List.length_take, List.length_drop, diffL_len]
  omega
theorem midD_get {l : List Int} {i j : Nat} (h : i < l.length) (hj : i ≤ j) : (midD l i).getD j 0 = l.getD j 0 := by
  unfold midD
  rw [List.getD_eq_getElem?_getD, List.getElem?_append_right (by rw [List.length_take, diffL_len]; omega), List.length_take, diffL_len, List.getElem?_drop, List.getD_eq_getElem?_getD]
  congr 2
  omega
theorem midD_step {l : List Int} {i : Nat} (h : i + 1 < l.length) : (midD l i).set i (l.getD (i + 1) 0 - l.getD i 0) = midD l (i + 1) := by
  unfold midD
  rw [List.set_append_right _ _ (by rw [List.length_take]; omega), List.length_take, diffL_len, show i - min i (l.length - 1) = 0 by omega, drop_getD (d := 0) (show i < l.length by omega), List.set_cons_zero,
    take_succ_getD (d := 0) (show i < (diffL l).length by rw [diffL_len]; omega), diffL_getD h, List.append_assoc]
  rfl
/-- What lies behind the differences. -/
def junkK (x : List Int) : Nat → List Int
  | 0 => []
  | k + 1 => (diffK x k).drop ((diffK x k).length - 1) ++ junkK x k
theorem midD_end (l : List Int) : midD l (l.length - 1) = diffL l ++ l.drop (l.length - 1) := by
  unfold midD
  rw [List.take_of_length_le (by rw [diffL_len]; exact Nat.le_refl _)]
end Go.Lq

namespace Go.Lq
open Go

section
variable {H : AHeap}

theorem within_c (n lo hi : Int) : ACall Go.Proofs.Tryd.prog 94 [.int .i64 n, .int .i64 lo, .int .i64 hi] H fun v H' => v = .bool (decide (lo ≤ n ∧ n ≤ hi)) ∧ H' = H := by
  (refine a94 ?_; simp only [n94, List.replicate, List.length_cons, List.length_nil, List.cons_append, List.nil_append])
  (repeat (first | refine q1 ?_ | refine q2 ?_ | refine q3 ?_ | refine q4 ?_ | refine q5 ?_ | refine q6 ?_ | refine q7 ?_ | refine q8 ?_ | refine q9 ?_ | refine qa ?_ | refine qb ?_ | refine qc ?_ | refine qd ?_ | refine qe (by decide) ?_ | refine qf ?_ | refine qg ?_)); (refine aops_until (by simp (disch := first | exact List.all_nil | omega | (simp only [go_sem]; done) | (simp only [ln, List.length_map]; omega) | (repeat' first | assumption | exact Ext.refl _ | refine Ext.app ?_ _)) only [go_sem]; rfl) ?_); (repeat (first | refine q1 ?_ | refine q2 ?_ | refine q3 ?_ | refine q4 ?_ | refine q5 ?_ | refine q6 ?_ | refine q7 ?_ | refine q8 ?_ | refine q9 ?_ | refine qa ?_ | refine qb ?_ | refine qc ?_ | refine qd ?_ | refine qe (by decide) ?_ | refine qf ?_ | refine qg ?_))
  by_cases h : lo ≤ n
  · (refine aops_until (by simp (disch := first | exact List.all_nil | omega | (simp only [go_sem]; done) | (simp only [ln, List.length_map]; omega) | (repeat' first | assumption | exact Ext.refl _ | refine Ext.app ?_ _)) only [go_sem, h]; rfl) ?_)
    (repeat (first | refine q1 ?_ | refine q2 ?_ | refine q3 ?_ | refine q4 ?_ | refine q5 ?_ | refine q6 ?_ | refine q7 ?_ | refine q8 ?_ | refine q9 ?_ | refine qa ?_ | refine qb ?_ | refine qc ?_ | refine qd ?_ | refine qe (by decide) ?_ | refine qf ?_ | refine qg ?_))
    refine fin_1 ⟨?_, rfl⟩
    simp [h]
  · (refine aops_until (by simp (disch := first | exact List.all_nil | omega | (simp only [go_sem]; done) | (simp only [ln, List.length_map]; omega) | (repeat' first | assumption | exact Ext.refl _ | refine Ext.app ?_ _)) only [go_sem, h]; rfl) ?_)
    (repeat (first | refine q1 ?_ | refine q2 ?_ | refine q3 ?_ | refine q4 ?_ | refine q5 ?_ | refine q6 ?_ | refine q7 ?_ | refine q8 ?_ | refine q9 ?_ | refine qa ?_ | refine qb ?_ | refine qc ?_ | refine qd ?_ | refine qe (by decide) ?_ | refine qf ?_ | refine qg ?_))
    refine fin_1 ⟨?_, rfl⟩
    simp [h]

theorem bwithin_c (n lo hi : Int) : ACall Go.Proofs.Tryd.prog 30 [.int .i64 n, .int .i64 lo, .int .i64 hi] H fun v H' => v = .bool (decide (lo ≤ n ∧ n ≤ hi)) ∧ H' = H := by
  (refine a30 ?_; simp only [n30, List.replicate, List.length_cons, List.length_nil, List.cons_append, List.nil_append])
  (repeat (first | refine q1 ?_ | refine q2 ?_ | refine q3 ?_ | refine q4 ?_ | refine q5 ?_ | refine q6 ?_ | refine q7 ?_ | refine q8 ?_ | refine q9 ?_ | refine qa ?_ | refine qb ?_ | refine qc ?_ | refine qd ?_ | refine qe (by decide) ?_ | refine qf ?_ | refine qg ?_)); (refine aops_until (by simp (disch := first | exact List.all_nil | omega | (simp only [go_sem]; done) | (simp only [ln, List.length_map]; omega) | (repeat' first | assumption | exact Ext.refl _ | refine Ext.app ?_ _)) only [go_sem]; rfl) ?_); (repeat (first | refine q1 ?_ | refine q2 ?_ | refine q3 ?_ | refine q4 ?_ | refine q5 ?_ | refine q6 ?_ | refine q7 ?_ | refine q8 ?_ | refine q9 ?_ | refine qa ?_ | refine qb ?_ | refine qc ?_ | refine qd ?_ | refine qe (by decide) ?_ | refine qf ?_ | refine qg ?_))
  by_cases h : lo ≤ n
  · (refine aops_until (by simp (disch := first | exact List.all_nil | omega | (simp only [go_sem]; done) | (simp only [ln, List.length_map]; omega) | (repeat' first | assumption | exact Ext.refl _ | refine Ext.app ?_ _)) only [go_sem, h]; rfl) ?_)
    (repeat (first | refine q1 ?_ | refine q2 ?_ | refine q3 ?_ | refine q4 ?_ | refine q5 ?_ | refine q6 ?_ | refine q7 ?_ | refine q8 ?_ | refine q9 ?_ | refine qa ?_ | refine qb ?_ | refine qc ?_ | refine qd ?_ | refine qe (by decide) ?_ | refine qf ?_ | refine qg ?_))
    refine fin_1 ⟨?_, rfl⟩
    simp [h]
  · (refine aops_until (by simp (disch := first | exact List.all_nil | omega | (simp only [go_sem]; done) | (simp only [ln, List.length_map]; omega) | (repeat' first | assumption | exact Ext.refl _ | refine Ext.app ?_ _)) only [go_sem, h]; rfl) ?_)
    (repeat (first | refine q1 ?_ | refine q2 ?_ | refine q3 ?_ | refine q4 ?_ | refine q5 ?_ | refine q6 ?_ | refine q7 ?_ | refine q8 ?_ | refine q9 ?_ | refine qa ?_ | refine qb ?_ | refine qc ?_ | refine qd ?_ | refine qe (by decide) ?_ | refine qf ?_ | refine qg ?_))
    refine fin_1 ⟨?_, rfl⟩
    simp [h]

theorem isSized_c (n m : Int) (hm : -9223372036854775807 ≤ m ∧ m ≤ 9223372036854775807) : ACall Go.Proofs.Tryd.prog 118 [.int .i64 n, .int .i64 m] H fun v H' => v = .bool (decide (-m ≤ n ∧ n ≤ m)) ∧ H' = H := by
  (refine a118 ?_; simp only [n118, List.replicate, List.length_cons, List.length_nil, List.cons_append, List.nil_append])
  (repeat (first | refine q1 ?_ | refine q2 ?_ | refine q3 ?_ | refine q4 ?_ | refine q5 ?_ | refine q6 ?_ | refine q7 ?_ | refine q8 ?_ | refine q9 ?_ | refine qa ?_ | refine qb ?_ | refine qc ?_ | refine qd ?_ | refine qe (by decide) ?_ | refine qf ?_ | refine qg ?_)); (refine aops_until (by simp (disch := first | exact List.all_nil | omega | (simp only [go_sem]; done) | (simp only [ln, List.length_map]; omega) | (repeat' first | assumption | exact Ext.refl _ | refine Ext.app ?_ _)) only [go_sem]; rfl) ?_); (repeat (first | refine q1 ?_ | refine q2 ?_ | refine q3 ?_ | refine q4 ?_ | refine q5 ?_ | refine q6 ?_ | refine q7 ?_ | refine q8 ?_ | refine q9 ?_ | refine qa ?_ | refine qb ?_ | refine qc ?_ | refine qd ?_ | refine qe (by decide) ?_ | refine qf ?_ | refine qg ?_))
  (refine aops_until (by simp (disch := first | exact List.all_nil | omega | (simp only [go_sem]; done) | (simp only [ln, List.length_map]; omega) | (repeat' first | assumption | exact Ext.refl _ | refine Ext.app ?_ _)) only [go_sem]; rfl) ?_)
  refine aops_call_to (within_c _ _ _) ?_
  (refine aops_until (by simp (disch := first | exact List.all_nil | omega | (simp only [go_sem]; done) | (simp only [ln, List.length_map]; omega) | (repeat' first | assumption | exact Ext.refl _ | refine Ext.app ?_ _)) only [go_sem]; rfl) ?_)
  (repeat (first | refine q1 ?_ | refine q2 ?_ | refine q3 ?_ | refine q4 ?_ | refine q5 ?_ | refine q6 ?_ | refine q7 ?_ | refine q8 ?_ | refine q9 ?_ | refine qa ?_ | refine qb ?_ | refine qc ?_ | refine qd ?_ | refine qe (by decide) ?_ | refine qf ?_ | refine qg ?_))
  refine fin_1 ⟨?_, rfl⟩
  simp

theorem unless_c (b : Bool) (e : Int) : ACall Go.Proofs.Tryd.prog 93 [.bool b, .int .i64 e] H fun v H' => v = .int .i64 (if b then 0 else e) ∧ H' = H := by
  (refine a93 ?_; simp only [n93, List.replicate, List.length_cons, List.length_nil, List.cons_append, List.nil_append])
  (repeat (first | refine q1 ?_ | refine q2 ?_ | refine q3 ?_ | refine q4 ?_ | refine q5 ?_ | refine q6 ?_ | refine q7 ?_ | refine q8 ?_ | refine q9 ?_ | refine qa ?_ | refine qb ?_ | refine qc ?_ | refine qd ?_ | refine qe (by decide) ?_ | refine qf ?_ | refine qg ?_)); (refine aops_until (by simp (disch := first | exact List.all_nil | omega | (simp only [go_sem]; done) | (simp only [ln, List.length_map]; omega) | (repeat' first | assumption | exact Ext.refl _ | refine Ext.app ?_ _)) only [go_sem]; rfl) ?_); (repeat (first | refine q1 ?_ | refine q2 ?_ | refine q3 ?_ | refine q4 ?_ | refine q5 ?_ | refine q6 ?_ | refine q7 ?_ | refine q8 ?_ | refine q9 ?_ | refine qa ?_ | refine qb ?_ | refine qc ?_ | refine qd ?_ | refine qe (by decide) ?_ | refine qf ?_ | refine qg ?_)); (refine aops_until (by simp (disch := first | exact List.all_nil | omega | (simp only [go_sem]; done) | (simp only [ln, List.length_map]; omega) | (repeat' first | assumption | exact Ext.refl _ | refine Ext.app ?_ _)) only [go_sem]; rfl) ?_); (repeat (first | refine q1 ?_ | refine q2 ?_ | refine q3 ?_ | refine q4 ?_ | refine q5 ?_ | refine q6 ?_ | refine q7 ?_ | refine q8 ?_ | refine q9 ?_ | refine qa ?_ | refine qb ?_ | refine qc ?_ | refine qd ?_ | refine qe (by decide) ?_ | refine qf ?_ | refine qg ?_))
  cases b with
  | true =>
    refine cond_t rfl ?_
    (repeat (first | refine q1 ?_ | refine q2 ?_ | refine q3 ?_ | refine q4 ?_ | refine q5 ?_ | refine q6 ?_ | refine q7 ?_ | refine q8 ?_ | refine q9 ?_ | refine qa ?_ | refine qb ?_ | refine qc ?_ | refine qd ?_ | refine qe (by decide) ?_ | refine qf ?_ | refine qg ?_)); (refine aops_until (by simp (disch := first | exact List.all_nil | omega | (simp only [go_sem]; done) | (simp only [ln, List.length_map]; omega) | (repeat' first | assumption | exact Ext.refl _ | refine Ext.app ?_ _)) only [go_sem]; rfl) ?_); (repeat (first | refine q1 ?_ | refine q2 ?_ | refine q3 ?_ | refine q4 ?_ | refine q5 ?_ | refine q6 ?_ | refine q7 ?_ | refine q8 ?_ | refine q9 ?_ | refine qa ?_ | refine qb ?_ | refine qc ?_ | refine qd ?_ | refine qe (by decide) ?_ | refine qf ?_ | refine qg ?_))
    exact fin_1 ⟨rfl, rfl⟩
  | false =>
    refine cond_f rfl ?_
    (repeat (first | refine q1 ?_ | refine q2 ?_ | refine q3 ?_ | refine q4 ?_ | refine q5 ?_ | refine q6 ?_ | refine q7 ?_ | refine q8 ?_ | refine q9 ?_ | refine qa ?_ | refine qb ?_ | refine qc ?_ | refine qd ?_ | refine qe (by decide) ?_ | refine qf ?_ | refine qg ?_)); (refine aops_until (by simp (disch := first | exact List.all_nil | omega | (simp only [go_sem]; done) | (simp only [ln, List.length_map]; omega) | (repeat' first | assumption | exact Ext.refl _ | refine Ext.app ?_ _)) only [go_sem]; rfl) ?_); (repeat (first | refine q1 ?_ | refine q2 ?_ | refine q3 ?_ | refine q4 ?_ | refine q5 ?_ | refine q6 ?_ | refine q7 ?_ | refine q8 ?_ | refine q9 ?_ | refine qa ?_ | refine qb ?_ | refine qc ?_ | refine qd ?_ | refine qe (by decide) ?_ | refine qf ?_ | refine qg ?_))
    exact fin_1 ⟨rfl, rfl⟩

/-- The first error. -/
def firstErr (l : List Int) : Int := (l.find? (fun e => decide (e ≠ 0))).getD 0

theorem firstErr_nil : firstErr [] = 0 := rfl
theorem firstErr_z (l : List Int) : firstErr (0 :: l) = firstErr l := by simp [firstErr]
theorem firstErr_e {e : Int} (h : e ≠ 0) (l : List Int) : firstErr (e :: l) = e := by simp [firstErr, h]
theorem ite_tt {α : Type} (a b : α) : (if true = true then a else b) = a := rfl
theorem ite_ft {α : Type} (a b : α) : (if false = true then a else b) = b := rfl
attribute [go_sem] firstErr_nil firstErr_z firstErr_e ite_tt ite_ft if_true if_false

theorem first_c {l : List Int} {v : Value} (hl : Ints H l v) (hb : l.length ≤ 1000000) : ACall Go.Proofs.Tryd.prog 88 [v] H fun v H' => v = .int .i64 (firstErr l) ∧ H' = H := by
  (refine a88 ?_; simp only [n88, List.replicate, List.length_cons, List.length_nil, List.cons_append, List.nil_append])
  (repeat (first | refine q1 ?_ | refine q2 ?_ | refine q3 ?_ | refine q4 ?_ | refine q5 ?_ | refine q6 ?_ | refine q7 ?_ | refine q8 ?_ | refine q9 ?_ | refine qa ?_ | refine qb ?_ | refine qc ?_ | refine qd ?_ | refine qe (by decide) ?_ | refine qf ?_ | refine qg ?_)); (refine aops_until (by simp (disch := first | exact List.all_nil | omega | (simp only [go_sem]; done) | (simp only [ln, List.length_map]; omega) | (repeat' first | assumption | exact Ext.refl _ | refine Ext.app ?_ _)) only [go_sem]; rfl) ?_); (repeat (first | refine q1 ?_ | refine q2 ?_ | refine q3 ?_ | refine q4 ?_ | refine q5 ?_ | refine q6 ?_ | refine q7 ?_ | refine q8 ?_ | refine q9 ?_ | refine qa ?_ | refine qb ?_ | refine qc ?_ | refine qd ?_ | refine qe (by decide) ?_ | refine qf ?_ | refine qg ?_)); (refine aops_until (by simp (disch := first | exact List.all_nil | omega | (simp only [go_sem]; done) | (simp only [ln, List.length_map]; omega) | (repeat' first | assumption | exact Ext.refl _ | refine Ext.app ?_ _)) only [go_sem, hl.len, hl.idx, hl.load]; rfl) ?_); (repeat (first | refine q1 ?_ | refine q2 ?_ | refine q3 ?_ | refine q4 ?_ | refine q5 ?_ | refine q6 ?_ | refine q7 ?_ | refine q8 ?_ | refine q9 ?_ | refine qa ?_ | refine qb ?_ | refine qc ?_ | refine qd ?_ | refine qe (by decide) ?_ | refine qf ?_ | refine qg ?_))
  refine awp_loop_n [true, false, true, false, false, true, true, true, false, false, false, false, false, false, false] l.length (fun i e H' => H' = H ∧ e = [v, junk, .int .i64 0, junk, junk, v, .int .i64 l.length, .int .i64 i, junk, junk, junk, junk, junk, junk, junk] ∧ ∀ j < i, l.getD j 0 = 0) ?_ ?_
  · exact ⟨rfl, rfl, by omega⟩
  · rintro i e H' hi ⟨rfl, rfl, hp⟩
    (repeat (first | refine q1 ?_ | refine q2 ?_ | refine q3 ?_ | refine q4 ?_ | refine q5 ?_ | refine q6 ?_ | refine q7 ?_ | refine q8 ?_ | refine q9 ?_ | refine qa ?_ | refine qb ?_ | refine qc ?_ | refine qd ?_ | refine qe (by decide) ?_ | refine qf ?_ | refine qg ?_)); (refine aops_until (by simp (disch := first | exact List.all_nil | omega | (simp only [go_sem]; done) | (simp only [ln, List.length_map]; omega) | (repeat' first | assumption | exact Ext.refl _ | refine Ext.app ?_ _)) only [go_sem, hl.len, hl.idx, hl.load]; rfl) ?_); (repeat (first | refine q1 ?_ | refine q2 ?_ | refine q3 ?_ | refine q4 ?_ | refine q5 ?_ | refine q6 ?_ | refine q7 ?_ | refine q8 ?_ | refine q9 ?_ | refine qa ?_ | refine qb ?_ | refine qc ?_ | refine qd ?_ | refine qe (by decide) ?_ | refine qf ?_ | refine qg ?_))
    refine cond_p rfl (fun hlt => ?_) (fun hge => ?_)
    · (repeat (first | refine q1 ?_ | refine q2 ?_ | refine q3 ?_ | refine q4 ?_ | refine q5 ?_ | refine q6 ?_ | refine q7 ?_ | refine q8 ?_ | refine q9 ?_ | refine qa ?_ | refine qb ?_ | refine qc ?_ | refine qd ?_ | refine qe (by decide) ?_ | refine qf ?_ | refine qg ?_)); (refine aops_until (by simp (disch := first | exact List.all_nil | omega | (simp only [go_sem]; done) | (simp only [ln, List.length_map]; omega) | (repeat' first | assumption | exact Ext.refl _ | refine Ext.app ?_ _)) only [go_sem, hl.len, hl.idx, hl.load]; rfl) ?_); (repeat (first | refine q1 ?_ | refine q2 ?_ | refine q3 ?_ | refine q4 ?_ | refine q5 ?_ | refine q6 ?_ | refine q7 ?_ | refine q8 ?_ | refine q9 ?_ | refine qa ?_ | refine qb ?_ | refine qc ?_ | refine qd ?_ | refine qe (by decide) ?_ | refine qf ?_ | refine qg ?_)); (refine aops_until (by simp (disch := first | exact List.all_nil | omega | (simp only [go_sem]; done) | (simp only [ln, List.length_map]; omega) | (repeat' first | assumption | exact Ext.refl _ | refine Ext.app ?_ _)) only [go_sem]; rfl) ?_); (repeat (first | refine q1 ?_ | refine q2 ?_ | refine q3 ?_ | refine q4 ?_ | refine q5 ?_ | refine q6 ?_ | refine q7 ?_ | refine q8 ?_ | refine q9 ?_ | refine qa ?_ | refine qb ?_ | refine qc ?_ | refine qd ?_ | refine qe (by decide) ?_ | refine qf ?_ | refine qg ?_))
      refine cond_p rfl (fun hne => ?_) (fun heq => ?_)
      · (repeat (first | refine q1 ?_ | refine q2 ?_ | refine q3 ?_ | refine q4 ?_ | refine q5 ?_ | refine q6 ?_ | refine q7 ?_ | refine q8 ?_ | refine q9 ?_ | refine qa ?_ | refine qb ?_ | refine qc ?_ | refine qd ?_ | refine qe (by decide) ?_ | refine qf ?_ | refine qg ?_)); (refine aops_until (by simp (disch := first | exact List.all_nil | omega | (simp only [go_sem]; done) | (simp only [ln, List.length_map]; omega) | (repeat' first | assumption | exact Ext.refl _ | refine Ext.app ?_ _)) only [go_sem]; rfl) ?_); (repeat (first | refine q1 ?_ | refine q2 ?_ | refine q3 ?_ | refine q4 ?_ | refine q5 ?_ | refine q6 ?_ | refine q7 ?_ | refine q8 ?_ | refine q9 ?_ | refine qa ?_ | refine qb ?_ | refine qc ?_ | refine qd ?_ | refine qe (by decide) ?_ | refine qf ?_ | refine qg ?_))
        refine fin_1 ⟨?_, rfl⟩
        unfold firstErr
        rw [find_at (d := 0) (i := i) (by omega) (fun j hj => by simpa using hp j hj) (by simpa using hne)]
        rfl
      · (repeat (first | refine q1 ?_ | refine q2 ?_ | refine q3 ?_ | refine q4 ?_ | refine q5 ?_ | refine q6 ?_ | refine q7 ?_ | refine q8 ?_ | refine q9 ?_ | refine qa ?_ | refine qb ?_ | refine qc ?_ | refine qd ?_ | refine qe (by decide) ?_ | refine qf ?_ | refine qg ?_)); (refine aops_until (by simp (disch := first | exact List.all_nil | omega | (simp only [go_sem]; done) | (simp only [ln, List.length_map]; omega) | (repeat' first | assumption | exact Ext.refl _ | refine Ext.app ?_ _)) only [go_sem]; rfl) ?_); (repeat (first | refine q1 ?_ | refine q2 ?_ | refine q3 ?_ | refine q4 ?_ | refine q5 ?_ | refine q6 ?_ | refine q7 ?_ | refine q8 ?_ | refine q9 ?_ | refine qa ?_ | refine qb ?_ | refine qc ?_ | refine qd ?_ | refine qe (by decide) ?_ | refine qf ?_ | refine qg ?_))
        refine ⟨by omega, rfl, ?_, fun j hj => ?_⟩
        · simp [forget]
        · by_cases h : j = i
          · subst h; simpa using heq
          · exact hp j (by omega)
    · (repeat (first | refine q1 ?_ | refine q2 ?_ | refine q3 ?_ | refine q4 ?_ | refine q5 ?_ | refine q6 ?_ | refine q7 ?_ | refine q8 ?_ | refine q9 ?_ | refine qa ?_ | refine qb ?_ | refine qc ?_ | refine qd ?_ | refine qe (by decide) ?_ | refine qf ?_ | refine qg ?_)); (refine aops_until (by simp (disch := first | exact List.all_nil | omega | (simp only [go_sem]; done) | (simp only [ln, List.length_map]; omega) | (repeat' first | assumption | exact Ext.refl _ | refine Ext.app ?_ _)) only [go_sem]; rfl) ?_); (repeat (first | refine q1 ?_ | refine q2 ?_ | refine q3 ?_ | refine q4 ?_ | refine q5 ?_ | refine q6 ?_ | refine q7 ?_ | refine q8 ?_ | refine q9 ?_ | refine qa ?_ | refine qb ?_ | refine qc ?_ | refine qd ?_ | refine qe (by decide) ?_ | refine qf ?_ | refine qg ?_))
      refine fin_1 ⟨?_, rfl⟩
      unfold firstErr
      rw [find_none (d := 0) (fun j hj => by simpa using hp j (by omega))]
      rfl

/-- A function value that answers of numbers by p, and leaves the heap. -/
def Asks (fv : Value) (p : Int → Bool) : Prop := ∀ n H, AInvoke Go.Proofs.Tryd.prog fv [.int .i64 n] H fun v H' => v = .bool (p n) ∧ H' = H

theorem indexFunc_c {l : List Int} {v fv : Value} {p : Int → Bool} (hl : Ints H l v) (hf : Asks fv p) (hb : l.length ≤ 1000000000) :
    ACall Go.Proofs.Tryd.prog 143 [v, fv] H fun v H' => (∃ i : Int, v = .int .i64 i ∧ (l.any p = decide (0 ≤ i))) ∧ H' = H := by
  (refine a143 ?_; simp only [n143, List.replicate, List.length_cons, List.length_nil, List.cons_append, List.nil_append])
  (repeat (first | refine q1 ?_ | refine q2 ?_ | refine q3 ?_ | refine q4 ?_ | refine q5 ?_ | refine q6 ?_ | refine q7 ?_ | refine q8 ?_ | refine q9 ?_ | refine qa ?_ | refine qb ?_ | refine qc ?_ | refine qd ?_ | refine qe (by decide) ?_ | refine qf ?_ | refine qg ?_)); (refine aops_until (by simp (disch := first | exact List.all_nil | omega | (simp only [go_sem]; done) | (simp only [ln, List.length_map]; omega) | (repeat' first | assumption | exact Ext.refl _ | refine Ext.app ?_ _)) only [go_sem]; rfl) ?_); (repeat (first | refine q1 ?_ | refine q2 ?_ | refine q3 ?_ | refine q4 ?_ | refine q5 ?_ | refine q6 ?_ | refine q7 ?_ | refine q8 ?_ | refine q9 ?_ | refine qa ?_ | refine qb ?_ | refine qc ?_ | refine qd ?_ | refine qe (by decide) ?_ | refine qf ?_ | refine qg ?_)); (refine aops_until (by simp (disch := first | exact List.all_nil | omega | (simp only [go_sem]; done) | (simp only [ln, List.length_map]; omega) | (repeat' first | assumption | exact Ext.refl _ | refine Ext.app ?_ _)) only [go_sem, hl.len, hl.idx, hl.load]; rfl) ?_); (repeat (first | refine q1 ?_ | refine q2 ?_ | refine q3 ?_ | refine q4 ?_ | refine q5 ?_ | refine q6 ?_ | refine q7 ?_ | refine q8 ?_ | refine q9 ?_ | refine qa ?_ | refine qb ?_ | refine qc ?_ | refine qd ?_ | refine qe (by decide) ?_ | refine qf ?_ | refine qg ?_))
  refine awp_loop_n [true, true, false, false, true, false, true, true, true, false, false, false, false, false, false, false, false, false, false] l.length (fun i e H' => H' = H ∧ e = [v, fv, junk, junk, .int .i64 0, junk, v, .int .i64 l.length, .int .i64 i, junk, junk, junk, junk, junk, junk, junk, junk, junk, junk] ∧ ∀ j < i, p (l.getD j 0) = false) ?_ ?_
  · exact ⟨rfl, rfl, by omega⟩
  · rintro i e H' hi ⟨rfl, rfl, hp⟩
    (repeat (first | refine q1 ?_ | refine q2 ?_ | refine q3 ?_ | refine q4 ?_ | refine q5 ?_ | refine q6 ?_ | refine q7 ?_ | refine q8 ?_ | refine q9 ?_ | refine qa ?_ | refine qb ?_ | refine qc ?_ | refine qd ?_ | refine qe (by decide) ?_ | refine qf ?_ | refine qg ?_)); (refine aops_until (by simp (disch := first | exact List.all_nil | omega | (simp only [go_sem]; done) | (simp only [ln, List.length_map]; omega) | (repeat' first | assumption | exact Ext.refl _ | refine Ext.app ?_ _)) only [go_sem, hl.len, hl.idx, hl.load]; rfl) ?_); (repeat (first | refine q1 ?_ | refine q2 ?_ | refine q3 ?_ | refine q4 ?_ | refine q5 ?_ | refine q6 ?_ | refine q7 ?_ | refine q8 ?_ | refine q9 ?_ | refine qa ?_ | refine qb ?_ | refine qc ?_ | refine qd ?_ | refine qe (by decide) ?_ | refine qf ?_ | refine qg ?_))
    refine cond_p rfl (fun hlt => ?_) (fun hge => ?_)
    · (repeat (first | refine q1 ?_ | refine q2 ?_ | refine q3 ?_ | refine q4 ?_ | refine q5 ?_ | refine q6 ?_ | refine q7 ?_ | refine q8 ?_ | refine q9 ?_ | refine qa ?_ | refine qb ?_ | refine qc ?_ | refine qd ?_ | refine qe (by decide) ?_ | refine qf ?_ | refine qg ?_)); (refine aops_until (by simp (disch := first | exact List.all_nil | omega | (simp only [go_sem]; done) | (simp only [ln, List.length_map]; omega) | (repeat' first | assumption | exact Ext.refl _ | refine Ext.app ?_ _)) only [go_sem, hl.len, hl.idx, hl.load]; rfl) ?_); (repeat (first | refine q1 ?_ | refine q2 ?_ | refine q3 ?_ | refine q4 ?_ | refine q5 ?_ | refine q6 ?_ | refine q7 ?_ | refine q8 ?_ | refine q9 ?_ | refine qa ?_ | refine qb ?_ | refine qc ?_ | refine qd ?_ | refine qe (by decide) ?_ | refine qf ?_ | refine qg ?_)); (refine aops_until (by simp (disch := first | exact List.all_nil | omega | (simp only [go_sem]; done) | (simp only [ln, List.length_map]; omega) | (repeat' first | assumption | exact Ext.refl _ | refine Ext.app ?_ _)) only [go_sem, hl.len, hl.idx, hl.load]; rfl) ?_)
      refine aops_call_to (hf _ _) ?_
      (refine aops_until (by simp (disch := first | exact List.all_nil | omega | (simp only [go_sem]; done) | (simp only [ln, List.length_map]; omega) | (repeat' first | assumption | exact Ext.refl _ | refine Ext.app ?_ _)) only [go_sem]; rfl) ?_); (repeat (first | refine q1 ?_ | refine q2 ?_ | refine q3 ?_ | refine q4 ?_ | refine q5 ?_ | refine q6 ?_ | refine q7 ?_ | refine q8 ?_ | refine q9 ?_ | refine qa ?_ | refine qb ?_ | refine qc ?_ | refine qd ?_ | refine qe (by decide) ?_ | refine qf ?_ | refine qg ?_))
      cases hq : p (l.getD i 0) with
      | true =>
        refine cond_t (by rw [← hq]; rfl) ?_
        (repeat (first | refine q1 ?_ | refine q2 ?_ | refine q3 ?_ | refine q4 ?_ | refine q5 ?_ | refine q6 ?_ | refine q7 ?_ | refine q8 ?_ | refine q9 ?_ | refine qa ?_ | refine qb ?_ | refine qc ?_ | refine qd ?_ | refine qe (by decide) ?_ | refine qf ?_ | refine qg ?_)); (refine aops_until (by simp (disch := first | exact List.all_nil | omega | (simp only [go_sem]; done) | (simp only [ln, List.length_map]; omega) | (repeat' first | assumption | exact Ext.refl _ | refine Ext.app ?_ _)) only [go_sem]; rfl) ?_); (repeat (first | refine q1 ?_ | refine q2 ?_ | refine q3 ?_ | refine q4 ?_ | refine q5 ?_ | refine q6 ?_ | refine q7 ?_ | refine q8 ?_ | refine q9 ?_ | refine qa ?_ | refine qb ?_ | refine qc ?_ | refine qd ?_ | refine qe (by decide) ?_ | refine qf ?_ | refine qg ?_))
        refine fin_1 ⟨⟨i, rfl, ?_⟩, rfl⟩
        rw [any_at (d := 0) (i := i) (by omega) hq]
        simp
      | false =>
        refine cond_f (by rw [← hq]; rfl) ?_
        (repeat (first | refine q1 ?_ | refine q2 ?_ | refine q3 ?_ | refine q4 ?_ | refine q5 ?_ | refine q6 ?_ | refine q7 ?_ | refine q8 ?_ | refine q9 ?_ | refine qa ?_ | refine qb ?_ | refine qc ?_ | refine qd ?_ | refine qe (by decide) ?_ | refine qf ?_ | refine qg ?_)); (refine aops_until (by simp (disch := first | exact List.all_nil | omega | (simp only [go_sem]; done) | (simp only [ln, List.length_map]; omega) | (repeat' first | assumption | exact Ext.refl _ | refine Ext.app ?_ _)) only [go_sem]; rfl) ?_); (repeat (first | refine q1 ?_ | refine q2 ?_ | refine q3 ?_ | refine q4 ?_ | refine q5 ?_ | refine q6 ?_ | refine q7 ?_ | refine q8 ?_ | refine q9 ?_ | refine qa ?_ | refine qb ?_ | refine qc ?_ | refine qd ?_ | refine qe (by decide) ?_ | refine qf ?_ | refine qg ?_))
        refine ⟨by omega, rfl, ?_, fun j hj => ?_⟩
        · simp [forget]
        · by_cases h : j = i
          · subst h; exact hq
          · exact hp j (by omega)
    · (repeat (first | refine q1 ?_ | refine q2 ?_ | refine q3 ?_ | refine q4 ?_ | refine q5 ?_ | refine q6 ?_ | refine q7 ?_ | refine q8 ?_ | refine q9 ?_ | refine qa ?_ | refine qb ?_ | refine qc ?_ | refine qd ?_ | refine qe (by decide) ?_ | refine qf ?_ | refine qg ?_)); (refine aops_until (by simp (disch := first | exact List.all_nil | omega | (simp only [go_sem]; done) | (simp only [ln, List.length_map]; omega) | (repeat' first | assumption | exact Ext.refl _ | refine Ext.app ?_ _)) only [go_sem]; rfl) ?_); (repeat (first | refine q1 ?_ | refine q2 ?_ | refine q3 ?_ | refine q4 ?_ | refine q5 ?_ | refine q6 ?_ | refine q7 ?_ | refine q8 ?_ | refine q9 ?_ | refine qa ?_ | refine qb ?_ | refine qc ?_ | refine qd ?_ | refine qe (by decide) ?_ | refine qf ?_ | refine qg ?_))
      refine fin_1 ⟨⟨-1, rfl, ?_⟩, rfl⟩
      rw [any_none (d := 0) fun j hj => hp j (by omega)]
      simp

theorem containsFunc_c {l : List Int} {v fv : Value} {p : Int → Bool} (hl : Ints H l v) (hf : Asks fv p) (hb : l.length ≤ 1000000000) :
    ACall Go.Proofs.Tryd.prog 113 [v, fv] H fun v H' => v = .bool (l.any p) ∧ H' = H := by
  (refine a113 ?_; simp only [n113, List.replicate, List.length_cons, List.length_nil, List.cons_append, List.nil_append])
  (repeat (first | refine q1 ?_ | refine q2 ?_ | refine q3 ?_ | refine q4 ?_ | refine q5 ?_ | refine q6 ?_ | refine q7 ?_ | refine q8 ?_ | refine q9 ?_ | refine qa ?_ | refine qb ?_ | refine qc ?_ | refine qd ?_ | refine qe (by decide) ?_ | refine qf ?_ | refine qg ?_)); (refine aops_until (by simp (disch := first | exact List.all_nil | omega | (simp only [go_sem]; done) | (simp only [ln, List.length_map]; omega) | (repeat' first | assumption | exact Ext.refl _ | refine Ext.app ?_ _)) only [go_sem]; rfl) ?_); (repeat (first | refine q1 ?_ | refine q2 ?_ | refine q3 ?_ | refine q4 ?_ | refine q5 ?_ | refine q6 ?_ | refine q7 ?_ | refine q8 ?_ | refine q9 ?_ | refine qa ?_ | refine qb ?_ | refine qc ?_ | refine qd ?_ | refine qe (by decide) ?_ | refine qf ?_ | refine qg ?_)); (refine aops_until (by simp (disch := first | exact List.all_nil | omega | (simp only [go_sem]; done) | (simp only [ln, List.length_map]; omega) | (repeat' first | assumption | exact Ext.refl _ | refine Ext.app ?_ _)) only [go_sem]; rfl) ?_)
  refine aops_call ((indexFunc_c hl hf hb).mono fun v1 H1 ⟨⟨i, h1, h2⟩, h3⟩ => ?_)
  subst h1; subst h3
  (refine aops_until (by simp (disch := first | exact List.all_nil | omega | (simp only [go_sem]; done) | (simp only [ln, List.length_map]; omega) | (repeat' first | assumption | exact Ext.refl _ | refine Ext.app ?_ _)) only [go_sem]; rfl) ?_); (repeat (first | refine q1 ?_ | refine q2 ?_ | refine q3 ?_ | refine q4 ?_ | refine q5 ?_ | refine q6 ?_ | refine q7 ?_ | refine q8 ?_ | refine q9 ?_ | refine qa ?_ | refine qb ?_ | refine qc ?_ | refine qd ?_ | refine qe (by decide) ?_ | refine qf ?_ | refine qg ?_))
  refine fin_1 ⟨?_, rfl⟩
  simp [h2]

end
end Go.Lq

namespace Go.Lq
open Go

section
variable {H : AHeap}

theorem copyInts_c {l : List Int} {v : Value} (hl : Ints H l v) (hb : l.length ≤ 1000000000) :
    ACall Go.Proofs.Tryd.prog 25 [v] H fun v H1 => v = .slice (some ⟨H.length, 0, none⟩) l.length l.length ∧ H1 = H ++ [.cells true 1 (l.map (.int .i64))] := by
  refine ACall.tidyE (f := id) (sz := 1) (n := l.length) (vs := l.map (.int .i64)) wraps_id (closed_ints l) ?_
  (refine a25 ?_; simp only [n25, List.replicate, List.length_cons, List.length_nil, List.cons_append, List.nil_append])
  rcases hl with ⟨h1, h2⟩
  rcases h2 with ⟨rfl, hn⟩ | ⟨id, off, c, rfl, hc⟩
  · have : l = [] := List.length_eq_zero_iff.1 hn
    subst this
    have ha : appendA 1 8 (H ++ [.cells true 1 []]) (.slice (some ⟨H.length, 0, none⟩) 0 0) (.slice none 0 0) = some (.slice (some ⟨H.length, 0, none⟩) 0 0, H ++ [.cells true 1 []]) := rfl
    ((repeat (first | refine q1 ?_ | refine q2 ?_ | refine q3 ?_ | refine q4 ?_ | refine q5 ?_ | refine q6 ?_ | refine q7 ?_ | refine q8 ?_ | refine q9 ?_ | refine qa ?_ | refine qb ?_ | refine qc ?_ | refine qd ?_ | refine qe (by decide) ?_ | refine qf ?_ | refine qg ?_ | ((first | apply aops_all | apply adraw_all); (simp (disch := first | exact List.all_nil | omega | (simp only [go_sem]; done) | (simp only [ln, List.length_map]; omega) | (repeat' first | assumption | exact Ext.refl _ | refine Ext.app ?_ _)) only [go_sem, ha]; rfl)))); (try ((first | apply aops_until | apply adraw_until); (simp (disch := first | exact List.all_nil | omega | (simp only [go_sem]; done) | (simp only [ln, List.length_map]; omega) | (repeat' first | assumption | exact Ext.refl _ | refine Ext.app ?_ _)) only [go_sem, ha]; rfl))))
    exact fin_1 ⟨_, H.length, rfl, ⟨_, rfl⟩, rfl, Nat.le_refl _, by simp⟩
  · by_cases hn : l.length = 0
    · have : l = [] := List.length_eq_zero_iff.1 hn
      subst this
      have ha : appendA 1 8 (H ++ [.cells true 1 []]) (.slice (some ⟨H.length, 0, none⟩) 0 0) (.slice (some ⟨id, off, none⟩) ([] : List Int).length c) = some (.slice (some ⟨H.length, 0, none⟩) 0 0, H ++ [.cells true 1 []]) := rfl
      ((repeat (first | refine q1 ?_ | refine q2 ?_ | refine q3 ?_ | refine q4 ?_ | refine q5 ?_ | refine q6 ?_ | refine q7 ?_ | refine q8 ?_ | refine q9 ?_ | refine qa ?_ | refine qb ?_ | refine qc ?_ | refine qd ?_ | refine qe (by decide) ?_ | refine qf ?_ | refine qg ?_ | ((first | apply aops_all | apply adraw_all); (simp (disch := first | exact List.all_nil | omega | (simp only [go_sem]; done) | (simp only [ln, List.length_map]; omega) | (repeat' first | assumption | exact Ext.refl _ | refine Ext.app ?_ _)) only [go_sem, ha]; rfl)))); (try ((first | apply aops_until | apply adraw_until); (simp (disch := first | exact List.all_nil | omega | (simp only [go_sem]; done) | (simp only [ln, List.length_map]; omega) | (repeat' first | assumption | exact Ext.refl _ | refine Ext.app ?_ _)) only [go_sem, ha]; rfl))))
      exact fin_1 ⟨_, H.length, rfl, ⟨_, rfl⟩, rfl, Nat.le_refl _, by simp⟩
    · have ha : appendA 1 8 (H ++ [.cells true 1 []]) (.slice (some ⟨H.length, 0, none⟩) 0 0) (.slice (some ⟨id, off, none⟩) l.length c) =
          some (.slice (some ⟨(H ++ [AObj.cells true 1 []]).length, 0, none⟩) l.length l.length, (H ++ [.cells true 1 []]) ++ [.cells true 1 (l.map (.int .i64))]) := by
        obtain ⟨k, hk⟩ : ∃ k, l.length = k + 1 := ⟨l.length - 1, by omega⟩
        have hc' := cellsAt_ext ⟨[AObj.cells true 1 []], rfl⟩ (hc (by omega))
        have hr : roomOk 8 (0 + l.length) = true := roomOk_of (by omega) (by omega)
        rw [hk] at hc' hr ⊢
        simp only [appendA, hc', isAtom_ints, hr, and_self, if_true]
      ((repeat (first | refine q1 ?_ | refine q2 ?_ | refine q3 ?_ | refine q4 ?_ | refine q5 ?_ | refine q6 ?_ | refine q7 ?_ | refine q8 ?_ | refine q9 ?_ | refine qa ?_ | refine qb ?_ | refine qc ?_ | refine qd ?_ | refine qe (by decide) ?_ | refine qf ?_ | refine qg ?_ | ((first | apply aops_all | apply adraw_all); (simp (disch := first | exact List.all_nil | omega | (simp only [go_sem]; done) | (simp only [ln, List.length_map]; omega) | (repeat' first | assumption | exact Ext.refl _ | refine Ext.app ?_ _)) only [go_sem, ha]; rfl)))); (try ((first | apply aops_until | apply adraw_until); (simp (disch := first | exact List.all_nil | omega | (simp only [go_sem]; done) | (simp only [ln, List.length_map]; omega) | (repeat' first | assumption | exact Ext.refl _ | refine Ext.app ?_ _)) only [go_sem, ha]; rfl))))
      refine fin_1 ?_
      exact ⟨_, (H ++ [AObj.cells true 1 []]).length, rfl, ⟨_, List.append_assoc _ _ _⟩, rfl, by simp, by simp⟩

theorem bsize_c (n : Int) (hn : -9223372036854775807 ≤ n ∧ n ≤ 9223372036854775807) : ACall Go.Proofs.Tryd.prog 35 [.int .i64 n] H fun v H' => v = .int .i64 (max n (-n)) ∧ H' = H := by
  (refine a35 ?_; simp only [n35, List.replicate, List.length_cons, List.length_nil, List.cons_append, List.nil_append])
  ((repeat (first | refine q1 ?_ | refine q2 ?_ | refine q3 ?_ | refine q4 ?_ | refine q5 ?_ | refine q6 ?_ | refine q7 ?_ | refine q8 ?_ | refine q9 ?_ | refine qa ?_ | refine qb ?_ | refine qc ?_ | refine qd ?_ | refine qe (by decide) ?_ | refine qf ?_ | refine qg ?_ | ((first | apply aops_all | apply adraw_all); (simp (disch := first | exact List.all_nil | omega | (simp only [go_sem]; done) | (simp only [ln, List.length_map]; omega) | (repeat' first | assumption | exact Ext.refl _ | refine Ext.app ?_ _)) only [go_sem]; rfl)))); (try ((first | apply aops_until | apply adraw_until); (simp (disch := first | exact List.all_nil | omega | (simp only [go_sem]; done) | (simp only [ln, List.length_map]; omega) | (repeat' first | assumption | exact Ext.refl _ | refine Ext.app ?_ _)) only [go_sem]; rfl))))
  refine fin_1 ⟨?_, rfl⟩
  simp

theorem bints_c {a b : List Int} {va vb : Value} (ha : Ints H a va) (hb : Ints H b vb) (hl : a.length ≤ 1000000000) (_ : b.length ≤ 1000000000) : ACall Go.Proofs.Tryd.prog 27 [va, vb] H fun v H' => v = .bool (decide (a = b)) ∧ H' = H := by
  (refine a27 ?_; simp only [n27, List.replicate, List.length_cons, List.length_nil, List.cons_append, List.nil_append])
  ((repeat (first | refine q1 ?_ | refine q2 ?_ | refine q3 ?_ | refine q4 ?_ | refine q5 ?_ | refine q6 ?_ | refine q7 ?_ | refine q8 ?_ | refine q9 ?_ | refine qa ?_ | refine qb ?_ | refine qc ?_ | refine qd ?_ | refine qe (by decide) ?_ | refine qf ?_ | refine qg ?_ | ((first | apply aops_all | apply adraw_all); (simp (disch := first | exact List.all_nil | omega | (simp only [go_sem]; done) | (simp only [ln, List.length_map]; omega) | (repeat' first | assumption | exact Ext.refl _ | refine Ext.app ?_ _)) only [go_sem, ha.len, ha.idx, ha.load, hb.len, hb.idx, hb.load]; rfl)))); (try ((first | apply aops_until | apply adraw_until); (simp (disch := first | exact List.all_nil | omega | (simp only [go_sem]; done) | (simp only [ln, List.length_map]; omega) | (repeat' first | assumption | exact Ext.refl _ | refine Ext.app ?_ _)) only [go_sem, ha.len, ha.idx, ha.load, hb.len, hb.idx, hb.load]; rfl))))
  refine cond_p rfl (fun hlt => ?_) (fun hge => ?_)
  · ((repeat (first | refine q1 ?_ | refine q2 ?_ | refine q3 ?_ | refine q4 ?_ | refine q5 ?_ | refine q6 ?_ | refine q7 ?_ | refine q8 ?_ | refine q9 ?_ | refine qa ?_ | refine qb ?_ | refine qc ?_ | refine qd ?_ | refine qe (by decide) ?_ | refine qf ?_ | refine qg ?_ | ((first | apply aops_all | apply adraw_all); (simp (disch := first | exact List.all_nil | omega | (simp only [go_sem]; done) | (simp only [ln, List.length_map]; omega) | (repeat' first | assumption | exact Ext.refl _ | refine Ext.app ?_ _)) only [go_sem]; rfl)))); (try ((first | apply aops_until | apply adraw_until); (simp (disch := first | exact List.all_nil | omega | (simp only [go_sem]; done) | (simp only [ln, List.length_map]; omega) | (repeat' first | assumption | exact Ext.refl _ | refine Ext.app ?_ _)) only [go_sem]; rfl))))
    refine fin_1 ⟨?_, rfl⟩
    have : a ≠ b := fun h => hlt (by rw [h])
    simp [this]
  · ((repeat (first | refine q1 ?_ | refine q2 ?_ | refine q3 ?_ | refine q4 ?_ | refine q5 ?_ | refine q6 ?_ | refine q7 ?_ | refine q8 ?_ | refine q9 ?_ | refine qa ?_ | refine qb ?_ | refine qc ?_ | refine qd ?_ | refine qe (by decide) ?_ | refine qf ?_ | refine qg ?_ | ((first | apply aops_all | apply adraw_all); (simp (disch := first | exact List.all_nil | omega | (simp only [go_sem]; done) | (simp only [ln, List.length_map]; omega) | (repeat' first | assumption | exact Ext.refl _ | refine Ext.app ?_ _)) only [go_sem]; rfl)))); (try ((first | apply aops_until | apply adraw_until); (simp (disch := first | exact List.all_nil | omega | (simp only [go_sem]; done) | (simp only [ln, List.length_map]; omega) | (repeat' first | assumption | exact Ext.refl _ | refine Ext.app ?_ _)) only [go_sem]; rfl))))
    have hlen : a.length = b.length := by omega
    refine awp_loop_n [true, true, false, false, false, true, false, false, false, false, false, false, false, false, false, false, false, false, false, false, false, false, false, false, false, false] a.length (fun i e H' => H' = H ∧ e = [va, vb, junk, junk, junk, .int .i64 i, junk, junk, junk, junk, junk, junk, junk, junk, junk, junk, junk, junk, junk, junk, junk, junk, junk, junk, junk, junk] ∧ ∀ j < i, a.getD j 0 = b.getD j 0) ?_ ?_
    · exact ⟨rfl, rfl, by omega⟩
    · rintro i e H' hi ⟨rfl, rfl, hp⟩
      ((repeat (first | refine q1 ?_ | refine q2 ?_ | refine q3 ?_ | refine q4 ?_ | refine q5 ?_ | refine q6 ?_ | refine q7 ?_ | refine q8 ?_ | refine q9 ?_ | refine qa ?_ | refine qb ?_ | refine qc ?_ | refine qd ?_ | refine qe (by decide) ?_ | refine qf ?_ | refine qg ?_ | ((first | apply aops_all | apply adraw_all); (simp (disch := first | exact List.all_nil | omega | (simp only [go_sem]; done) | (simp only [ln, List.length_map]; omega) | (repeat' first | assumption | exact Ext.refl _ | refine Ext.app ?_ _)) only [go_sem, ha.len, ha.idx, ha.load, hb.len, hb.idx, hb.load]; rfl)))); (try ((first | apply aops_until | apply adraw_until); (simp (disch := first | exact List.all_nil | omega | (simp only [go_sem]; done) | (simp only [ln, List.length_map]; omega) | (repeat' first | assumption | exact Ext.refl _ | refine Ext.app ?_ _)) only [go_sem, ha.len, ha.idx, ha.load, hb.len, hb.idx, hb.load]; rfl))))
      refine cond_p rfl (fun hlt => ?_) (fun hge => ?_)
      · ((repeat (first | refine q1 ?_ | refine q2 ?_ | refine q3 ?_ | refine q4 ?_ | refine q5 ?_ | refine q6 ?_ | refine q7 ?_ | refine q8 ?_ | refine q9 ?_ | refine qa ?_ | refine qb ?_ | refine qc ?_ | refine qd ?_ | refine qe (by decide) ?_ | refine qf ?_ | refine qg ?_ | ((first | apply aops_all | apply adraw_all); (simp (disch := first | exact List.all_nil | omega | (simp only [go_sem]; done) | (simp only [ln, List.length_map]; omega) | (repeat' first | assumption | exact Ext.refl _ | refine Ext.app ?_ _)) only [go_sem, ha.len, ha.idx, ha.load, hb.len, hb.idx, hb.load]; rfl)))); (try ((first | apply aops_until | apply adraw_until); (simp (disch := first | exact List.all_nil | omega | (simp only [go_sem]; done) | (simp only [ln, List.length_map]; omega) | (repeat' first | assumption | exact Ext.refl _ | refine Ext.app ?_ _)) only [go_sem, ha.len, ha.idx, ha.load, hb.len, hb.idx, hb.load]; rfl))))
        refine cond_p rfl (fun hne => ?_) (fun heq => ?_)
        · ((repeat (first | refine q1 ?_ | refine q2 ?_ | refine q3 ?_ | refine q4 ?_ | refine q5 ?_ | refine q6 ?_ | refine q7 ?_ | refine q8 ?_ | refine q9 ?_ | refine qa ?_ | refine qb ?_ | refine qc ?_ | refine qd ?_ | refine qe (by decide) ?_ | refine qf ?_ | refine qg ?_ | ((first | apply aops_all | apply adraw_all); (simp (disch := first | exact List.all_nil | omega | (simp only [go_sem]; done) | (simp only [ln, List.length_map]; omega) | (repeat' first | assumption | exact Ext.refl _ | refine Ext.app ?_ _)) only [go_sem]; rfl)))); (try ((first | apply aops_until | apply adraw_until); (simp (disch := first | exact List.all_nil | omega | (simp only [go_sem]; done) | (simp only [ln, List.length_map]; omega) | (repeat' first | assumption | exact Ext.refl _ | refine Ext.app ?_ _)) only [go_sem]; rfl))))
          refine fin_1 ⟨?_, rfl⟩
          have : a ≠ b := fun h => hne (by rw [h])
          simp [this]
        · ((repeat (first | refine q1 ?_ | refine q2 ?_ | refine q3 ?_ | refine q4 ?_ | refine q5 ?_ | refine q6 ?_ | refine q7 ?_ | refine q8 ?_ | refine q9 ?_ | refine qa ?_ | refine qb ?_ | refine qc ?_ | refine qd ?_ | refine qe (by decide) ?_ | refine qf ?_ | refine qg ?_ | ((first | apply aops_all | apply adraw_all); (simp (disch := first | exact List.all_nil | omega | (simp only [go_sem]; done) | (simp only [ln, List.length_map]; omega) | (repeat' first | assumption | exact Ext.refl _ | refine Ext.app ?_ _)) only [go_sem]; rfl)))); (try ((first | apply aops_until | apply adraw_until); (simp (disch := first | exact List.all_nil | omega | (simp only [go_sem]; done) | (simp only [ln, List.length_map]; omega) | (repeat' first | assumption | exact Ext.refl _ | refine Ext.app ?_ _)) only [go_sem]; rfl))))
          refine ⟨by omega, rfl, by simp [forget], fun j hj => ?_⟩
          by_cases h : j = i
          · subst h; simpa using heq
          · exact hp j (by omega)
      · ((repeat (first | refine q1 ?_ | refine q2 ?_ | refine q3 ?_ | refine q4 ?_ | refine q5 ?_ | refine q6 ?_ | refine q7 ?_ | refine q8 ?_ | refine q9 ?_ | refine qa ?_ | refine qb ?_ | refine qc ?_ | refine qd ?_ | refine qe (by decide) ?_ | refine qf ?_ | refine qg ?_ | ((first | apply aops_all | apply adraw_all); (simp (disch := first | exact List.all_nil | omega | (simp only [go_sem]; done) | (simp only [ln, List.length_map]; omega) | (repeat' first | assumption | exact Ext.refl _ | refine Ext.app ?_ _)) only [go_sem]; rfl)))); (try ((first | apply aops_until | apply adraw_until); (simp (disch := first | exact List.all_nil | omega | (simp only [go_sem]; done) | (simp only [ln, List.length_map]; omega) | (repeat' first | assumption | exact Ext.refl _ | refine Ext.app ?_ _)) only [go_sem]; rfl))))
        refine fin_1 ⟨?_, rfl⟩
        have : a = b := ext_getD (d := 0) hlen fun j hj => hp j (by omega)
        simp [this]
end
theorem firstD {P : Program} {G : AHeap} {f : FuncId} {args : List Value} {v : Value} (h : ACall P f args G fun v1 H1 => v1 = v ∧ H1 = G) : ACall P f args G fun v1 H1 => v1 = v ∧ H1 = G ++ [] :=
  h.mono fun _ _ ⟨a, b⟩ => ⟨a, by simp [b]⟩

end Go.Lq

namespace Go.Lq
open Go
open Go.Proofs
variable {H : AHeap}

theorem store_at2v {id e : Nat} {x y a b : Value} (h : H[id]? = some (.cells true e [x, y])) (ha : isAtom a = true) (hb : isAtom b = true) : storeR 2 (.pointer (some ⟨id, 0, none⟩)) (.agg ⟨[a, b]⟩) H = some (undef, H.set id (.cells true e [a, b])) := by
  have e1 : (Value.agg ⟨[a, b]⟩).cells = ⟨[a, b]⟩ := rfl
  have e2 : ([a, b] : List Value).all isAtom = true := by simp [ha, hb]
  have e3 : setCells [x, y] 0 [a, b] = [a, b] := rfl
  simp only [storeR, e1, List.size_toArray, storeAt, h, e2, e3, and_true, List.length_cons, List.length_nil]
  rfl
end Go.Lq

namespace Go.Lq
open Go
open Go.Proofs

theorem Ints.atom {H : AHeap} {l : List Int} {v : Value} (h : Ints H l v) : isAtom v = true := by
  rcases h.2 with ⟨rfl, _⟩ | ⟨id, off, c, rfl, _⟩ <;> rfl
theorem Ints.box2 {H : AHeap} {l : List Int} {v : Value} {n : Int} (h : Ints H l v) {H' : AHeap} : boxR (.agg ⟨[v, .int .i64 n]⟩) H' = some (.pointer (some ⟨H'.length, 0, none⟩), H' ++ [.cells true 0 [v, .int .i64 n]]) :=
  box_agg (by simp [h.atom, isAtom_int])
theorem n2_at {G : AHeap} {id : Nat} {a b : Value} (h : G[id]? = some (.cells true 0 [a, b])) : loadNR 2 (.pointer (some ⟨id, 0, none⟩)) G = some (.agg ⟨[a, b]⟩, G) := loadN_at h (by simp)
theorem any_not (l : List Int) (p : Int → Bool) : (l.any fun n => !p n) = !l.all p := by rw [← List.not_all_eq_any_not]
theorem fill2v {x y a : Value} {b : Int} (ha : isAtom a = true) : fillA [x, y] [(0, 1, a), (1, 1, .int .i64 b)] = some [a, .int .i64 b] := by
  have e : a.cells = ⟨[a]⟩ := by cases a <;> first | rfl | cases ha
  have h1 : fillA [x, y] [(0, 1, a), (1, 1, .int .i64 b)] = fillA [a, y] [(1, 1, .int .i64 b)] := by
    conv => lhs; unfold fillA
    rw [e, if_pos ⟨rfl, by simp, by simp [ha]⟩]
    rfl
  rw [h1, fillA_int (by simp)]
  rfl

section
variable {H : AHeap}
theorem signalErr1_c : Asks (.func (.func 131) #[] #[]) (fun n => !decide (-32767 ≤ n ∧ n ≤ 32767)) := fun n H => by
  show ACall _ _ _ _ _
  (refine a131 ?_; simp only [n131, List.replicate, List.length_cons, List.length_nil, List.cons_append, List.nil_append])
  ((repeat (first | refine q1 ?_ | refine q2 ?_ | refine q3 ?_ | refine q4 ?_ | refine q5 ?_ | refine q6 ?_ | refine q7 ?_ | refine q8 ?_ | refine q9 ?_ | refine qa ?_ | refine qb ?_ | refine qc ?_ | refine qd ?_ | refine qe (by decide) ?_ | refine qf ?_ | refine qg ?_ | ((first | apply aops_all | apply adraw_all); (simp (disch := first | exact List.all_nil | omega | (simp only [go_sem]; done) | (simp only [ln, List.length_map]; omega) | (repeat' first | assumption | exact Ext.refl _ | refine Ext.app ?_ _)) only [go_sem]; rfl)))); (try ((first | apply aops_until | apply adraw_until); (simp (disch := first | exact List.all_nil | omega | (simp only [go_sem]; done) | (simp only [ln, List.length_map]; omega) | (repeat' first | assumption | exact Ext.refl _ | refine Ext.app ?_ _)) only [go_sem]; rfl))))
  refine aops_call_to (isSized_c _ _ (by omega)) ?_
  ((repeat (first | refine q1 ?_ | refine q2 ?_ | refine q3 ?_ | refine q4 ?_ | refine q5 ?_ | refine q6 ?_ | refine q7 ?_ | refine q8 ?_ | refine q9 ?_ | refine qa ?_ | refine qb ?_ | refine qc ?_ | refine qd ?_ | refine qe (by decide) ?_ | refine qf ?_ | refine qg ?_ | ((first | apply aops_all | apply adraw_all); (simp (disch := first | exact List.all_nil | omega | (simp only [go_sem]; done) | (simp only [ln, List.length_map]; omega) | (repeat' first | assumption | exact Ext.refl _ | refine Ext.app ?_ _)) only [go_sem]; rfl)))); (try ((first | apply aops_until | apply adraw_until); (simp (disch := first | exact List.all_nil | omega | (simp only [go_sem]; done) | (simp only [ln, List.length_map]; omega) | (repeat' first | assumption | exact Ext.refl _ | refine Ext.app ?_ _)) only [go_sem]; rfl))))
  exact fin_1 ⟨rfl, rfl⟩
theorem signalErr_c {x : List Int} {v : Value} (hx : Ints H x v) (hb : x.length ≤ 1000000000) : ACall Go.Proofs.Tryd.prog 89 [v] H fun v H' => v = .int .i64 (signalErrL x) ∧ H' = H := by
  refine ACall.drop (.int _ _) ?_
  (refine a89 ?_; simp only [n89, List.replicate, List.length_cons, List.length_nil, List.cons_append, List.nil_append])
  ((repeat (first | refine q1 ?_ | refine q2 ?_ | refine q3 ?_ | refine q4 ?_ | refine q5 ?_ | refine q6 ?_ | refine q7 ?_ | refine q8 ?_ | refine q9 ?_ | refine qa ?_ | refine qb ?_ | refine qc ?_ | refine qd ?_ | refine qe (by decide) ?_ | refine qf ?_ | refine qg ?_ | ((first | apply aops_all | apply adraw_all); (simp (disch := first | exact List.all_nil | omega | (simp only [go_sem]; done) | (simp only [ln, List.length_map]; omega) | (repeat' first | assumption | exact Ext.refl _ | refine Ext.app ?_ _)) only [go_sem]; rfl)))); (try ((first | apply aops_until | apply adraw_until); (simp (disch := first | exact List.all_nil | omega | (simp only [go_sem]; done) | (simp only [ln, List.length_map]; omega) | (repeat' first | assumption | exact Ext.refl _ | refine Ext.app ?_ _)) only [go_sem]; rfl))))
  refine aops_call_to (containsFunc_c hx signalErr1_c hb) ?_
  rw [any_not]
  ((repeat (first | refine q1 ?_ | refine q2 ?_ | refine q3 ?_ | refine q4 ?_ | refine q5 ?_ | refine q6 ?_ | refine q7 ?_ | refine q8 ?_ | refine q9 ?_ | refine qa ?_ | refine qb ?_ | refine qc ?_ | refine qd ?_ | refine qe (by decide) ?_ | refine qf ?_ | refine qg ?_ | ((first | apply aops_all | apply adraw_all); (simp (disch := first | exact List.all_nil | omega | (simp only [go_sem]; done) | (simp only [ln, List.length_map]; omega) | (repeat' first | assumption | exact Ext.refl _ | refine Ext.app ?_ _)) only [go_sem, hx.len, hx.idx, hx.load]; rfl)))); (try ((first | apply aops_until | apply adraw_until); (simp (disch := first | exact List.all_nil | omega | (simp only [go_sem]; done) | (simp only [ln, List.length_map]; omega) | (repeat' first | assumption | exact Ext.refl _ | refine Ext.app ?_ _)) only [go_sem, hx.len, hx.idx, hx.load]; rfl))))
  refine aops_call_to (unless_c _ _) ?_
  ((repeat (first | refine q1 ?_ | refine q2 ?_ | refine q3 ?_ | refine q4 ?_ | refine q5 ?_ | refine q6 ?_ | refine q7 ?_ | refine q8 ?_ | refine q9 ?_ | refine qa ?_ | refine qb ?_ | refine qc ?_ | refine qd ?_ | refine qe (by decide) ?_ | refine qf ?_ | refine qg ?_ | ((first | apply aops_all | apply adraw_all); (simp (disch := first | exact List.all_nil | omega | (simp only [go_sem]; done) | (simp only [ln, List.length_map]; omega) | (repeat' first | assumption | exact Ext.refl _ | refine Ext.app ?_ _)) only [go_sem]; rfl)))); (try ((first | apply aops_until | apply adraw_until); (simp (disch := first | exact List.all_nil | omega | (simp only [go_sem]; done) | (simp only [ln, List.length_map]; omega) | (repeat' first | assumption | exact Ext.refl _ | refine Ext.app ?_ _)) only [go_sem]; rfl))))
  refine aops_call_to (unless_c _ _) ?_
  ((repeat (first | refine q1 ?_ | refine q2 ?_ | refine q3 ?_ | refine q4 ?_ | refine q5 ?_ | refine q6 ?_ | refine q7 ?_ | refine q8 ?_ | refine q9 ?_ | refine qa ?_ | refine qb ?_ | refine qc ?_ | refine qd ?_ | refine qe (by decide) ?_ | refine qf ?_ | refine qg ?_ | ((first | apply aops_all | apply adraw_all); (simp (disch := first | exact List.all_nil | omega | (simp only [go_sem]; done) | (simp only [ln, List.length_map]; omega) | (repeat' first | assumption | exact Ext.refl _ | refine Ext.app ?_ _)) only [go_sem]; rfl)))); (try ((first | apply aops_until | apply adraw_until); (simp (disch := first | exact List.all_nil | omega | (simp only [go_sem]; done) | (simp only [ln, List.length_map]; omega) | (repeat' first | assumption | exact Ext.refl _ | refine Ext.app ?_ _)) only [go_sem]; rfl))))
  refine aops_call_to (first_c (l := [_, _]) (Ints.last (l := [_, _]) 2) (by simp)) ?_
  ((repeat (first | refine q1 ?_ | refine q2 ?_ | refine q3 ?_ | refine q4 ?_ | refine q5 ?_ | refine q6 ?_ | refine q7 ?_ | refine q8 ?_ | refine q9 ?_ | refine qa ?_ | refine qb ?_ | refine qc ?_ | refine qd ?_ | refine qe (by decide) ?_ | refine qf ?_ | refine qg ?_ | ((first | apply aops_all | apply adraw_all); (simp (disch := first | exact List.all_nil | omega | (simp only [go_sem]; done) | (simp only [ln, List.length_map]; omega) | (repeat' first | assumption | exact Ext.refl _ | refine Ext.app ?_ _)) only [go_sem]; rfl)))); (try ((first | apply aops_until | apply adraw_until); (simp (disch := first | exact List.all_nil | omega | (simp only [go_sem]; done) | (simp only [ln, List.length_map]; omega) | (repeat' first | assumption | exact Ext.refl _ | refine Ext.app ?_ _)) only [go_sem]; rfl))))
  refine fin_1 ⟨?_, (Ext.refl _).app _⟩
  unfold signalErrL
  by_cases h1 : 400 < x.length
  · have : ¬ (x.length : Int) ≤ 400 := by omega
    simp [firstErr, h1, this]
  · have : (x.length : Int) ≤ 400 := by omega
    cases hq : x.all (fun n => decide (-32767 ≤ n ∧ n ≤ 32767)) <;> simp [firstErr, h1, this]
theorem refSignalErr_c {x : List Int} {v : Value} (hx : Ints H x v) (hb : x.length ≤ 1000000000) : ACall Go.Proofs.Tryd.prog 28 [v] H fun v H' => v = .int .i64 (signalErrL x) ∧ H' = H := by
  (refine a28 ?_; simp only [n28, List.replicate, List.length_cons, List.length_nil, List.cons_append, List.nil_append])
  ((repeat (first | refine q1 ?_ | refine q2 ?_ | refine q3 ?_ | refine q4 ?_ | refine q5 ?_ | refine q6 ?_ | refine q7 ?_ | refine q8 ?_ | refine q9 ?_ | refine qa ?_ | refine qb ?_ | refine qc ?_ | refine qd ?_ | refine qe (by decide) ?_ | refine qf ?_ | refine qg ?_ | ((first | apply aops_all | apply adraw_all); (simp (disch := first | exact List.all_nil | omega | (simp only [go_sem]; done) | (simp only [ln, List.length_map]; omega) | (repeat' first | assumption | exact Ext.refl _ | refine Ext.app ?_ _)) only [go_sem, hx.len, hx.idx, hx.load]; rfl)))); (try ((first | apply aops_until | apply adraw_until); (simp (disch := first | exact List.all_nil | omega | (simp only [go_sem]; done) | (simp only [ln, List.length_map]; omega) | (repeat' first | assumption | exact Ext.refl _ | refine Ext.app ?_ _)) only [go_sem, hx.len, hx.idx, hx.load]; rfl))))
  refine cond_p rfl (fun hlt => ?_) (fun hge => ?_)
  · ((repeat (first | refine q1 ?_ | refine q2 ?_ | refine q3 ?_ | refine q4 ?_ | refine q5 ?_ | refine q6 ?_ | refine q7 ?_ | refine q8 ?_ | refine q9 ?_ | refine qa ?_ | refine qb ?_ | refine qc ?_ | refine qd ?_ | refine qe (by decide) ?_ | refine qf ?_ | refine qg ?_ | ((first | apply aops_all | apply adraw_all); (simp (disch := first | exact List.all_nil | omega | (simp only [go_sem]; done) | (simp only [ln, List.length_map]; omega) | (repeat' first | assumption | exact Ext.refl _ | refine Ext.app ?_ _)) only [go_sem]; rfl)))); (try ((first | apply aops_until | apply adraw_until); (simp (disch := first | exact List.all_nil | omega | (simp only [go_sem]; done) | (simp only [ln, List.length_map]; omega) | (repeat' first | assumption | exact Ext.refl _ | refine Ext.app ?_ _)) only [go_sem]; rfl))))
    refine fin_1 ⟨?_, rfl⟩
    unfold signalErrL
    rw [if_pos (by omega)]; rfl
  · ((repeat (first | refine q1 ?_ | refine q2 ?_ | refine q3 ?_ | refine q4 ?_ | refine q5 ?_ | refine q6 ?_ | refine q7 ?_ | refine q8 ?_ | refine q9 ?_ | refine qa ?_ | refine qb ?_ | refine qc ?_ | refine qd ?_ | refine qe (by decide) ?_ | refine qf ?_ | refine qg ?_ | ((first | apply aops_all | apply adraw_all); (simp (disch := first | exact List.all_nil | omega | (simp only [go_sem]; done) | (simp only [ln, List.length_map]; omega) | (repeat' first | assumption | exact Ext.refl _ | refine Ext.app ?_ _)) only [go_sem]; rfl)))); (try ((first | apply aops_until | apply adraw_until); (simp (disch := first | exact List.all_nil | omega | (simp only [go_sem]; done) | (simp only [ln, List.length_map]; omega) | (repeat' first | assumption | exact Ext.refl _ | refine Ext.app ?_ _)) only [go_sem]; rfl))))
    refine awp_loop_n [true, false, false, true, false, false, false, false, false, false, false, false, false, false, false, false, false, false, false] x.length (fun i e H' => H' = H ∧ e = [v, junk, junk, .int .i64 i, junk, junk, junk, junk, junk, junk, junk, junk, junk, junk, junk, junk, junk, junk, junk] ∧ ∀ j < i, decide (-32767 ≤ x.getD j 0 ∧ x.getD j 0 ≤ 32767) = true) ?_ ?_
    · exact ⟨rfl, rfl, by omega⟩
    · rintro i e H' hi ⟨rfl, rfl, hp⟩
      ((repeat (first | refine q1 ?_ | refine q2 ?_ | refine q3 ?_ | refine q4 ?_ | refine q5 ?_ | refine q6 ?_ | refine q7 ?_ | refine q8 ?_ | refine q9 ?_ | refine qa ?_ | refine qb ?_ | refine qc ?_ | refine qd ?_ | refine qe (by decide) ?_ | refine qf ?_ | refine qg ?_ | ((first | apply aops_all | apply adraw_all); (simp (disch := first | exact List.all_nil | omega | (simp only [go_sem]; done) | (simp only [ln, List.length_map]; omega) | (repeat' first | assumption | exact Ext.refl _ | refine Ext.app ?_ _)) only [go_sem, hx.len, hx.idx, hx.load]; rfl)))); (try ((first | apply aops_until | apply adraw_until); (simp (disch := first | exact List.all_nil | omega | (simp only [go_sem]; done) | (simp only [ln, List.length_map]; omega) | (repeat' first | assumption | exact Ext.refl _ | refine Ext.app ?_ _)) only [go_sem, hx.len, hx.idx, hx.load]; rfl))))
      refine cond_p rfl (fun hlt => ?_) (fun hge => ?_)
      · ((repeat (first | refine q1 ?_ | refine q2 ?_ | refine q3 ?_ | refine q4 ?_ | refine q5 ?_ | refine q6 ?_ | refine q7 ?_ | refine q8 ?_ | refine q9 ?_ | refine qa ?_ | refine qb ?_ | refine qc ?_ | refine qd ?_ | refine qe (by decide) ?_ | refine qf ?_ | refine qg ?_ | ((first | apply aops_all | apply adraw_all); (simp (disch := first | exact List.all_nil | omega | (simp only [go_sem]; done) | (simp only [ln, List.length_map]; omega) | (repeat' first | assumption | exact Ext.refl _ | refine Ext.app ?_ _)) only [go_sem, hx.len, hx.idx, hx.load]; rfl)))); (try ((first | apply aops_until | apply adraw_until); (simp (disch := first | exact List.all_nil | omega | (simp only [go_sem]; done) | (simp only [ln, List.length_map]; omega) | (repeat' first | assumption | exact Ext.refl _ | refine Ext.app ?_ _)) only [go_sem, hx.len, hx.idx, hx.load]; rfl))))
        refine aops_call_to (bwithin_c _ _ _) ?_
        ((repeat (first | refine q1 ?_ | refine q2 ?_ | refine q3 ?_ | refine q4 ?_ | refine q5 ?_ | refine q6 ?_ | refine q7 ?_ | refine q8 ?_ | refine q9 ?_ | refine qa ?_ | refine qb ?_ | refine qc ?_ | refine qd ?_ | refine qe (by decide) ?_ | refine qf ?_ | refine qg ?_ | ((first | apply aops_all | apply adraw_all); (simp (disch := first | exact List.all_nil | omega | (simp only [go_sem]; done) | (simp only [ln, List.length_map]; omega) | (repeat' first | assumption | exact Ext.refl _ | refine Ext.app ?_ _)) only [go_sem]; rfl)))); (try ((first | apply aops_until | apply adraw_until); (simp (disch := first | exact List.all_nil | omega | (simp only [go_sem]; done) | (simp only [ln, List.length_map]; omega) | (repeat' first | assumption | exact Ext.refl _ | refine Ext.app ?_ _)) only [go_sem]; rfl))))
        refine cond_n rfl (fun hne => ?_) (fun heq => ?_)
        · ((repeat (first | refine q1 ?_ | refine q2 ?_ | refine q3 ?_ | refine q4 ?_ | refine q5 ?_ | refine q6 ?_ | refine q7 ?_ | refine q8 ?_ | refine q9 ?_ | refine qa ?_ | refine qb ?_ | refine qc ?_ | refine qd ?_ | refine qe (by decide) ?_ | refine qf ?_ | refine qg ?_ | ((first | apply aops_all | apply adraw_all); (simp (disch := first | exact List.all_nil | omega | (simp only [go_sem]; done) | (simp only [ln, List.length_map]; omega) | (repeat' first | assumption | exact Ext.refl _ | refine Ext.app ?_ _)) only [go_sem]; rfl)))); (try ((first | apply aops_until | apply adraw_until); (simp (disch := first | exact List.all_nil | omega | (simp only [go_sem]; done) | (simp only [ln, List.length_map]; omega) | (repeat' first | assumption | exact Ext.refl _ | refine Ext.app ?_ _)) only [go_sem]; rfl))))
          refine fin_1 ⟨?_, rfl⟩
          have : x.all (fun n => decide (-32767 ≤ n ∧ n ≤ 32767)) = false := all_false (d := 0) (i := i) (by omega) (by simpa using hne)
          unfold signalErrL
          rw [if_neg (by omega), this]; rfl
        · ((repeat (first | refine q1 ?_ | refine q2 ?_ | refine q3 ?_ | refine q4 ?_ | refine q5 ?_ | refine q6 ?_ | refine q7 ?_ | refine q8 ?_ | refine q9 ?_ | refine qa ?_ | refine qb ?_ | refine qc ?_ | refine qd ?_ | refine qe (by decide) ?_ | refine qf ?_ | refine qg ?_ | ((first | apply aops_all | apply adraw_all); (simp (disch := first | exact List.all_nil | omega | (simp only [go_sem]; done) | (simp only [ln, List.length_map]; omega) | (repeat' first | assumption | exact Ext.refl _ | refine Ext.app ?_ _)) only [go_sem]; rfl)))); (try ((first | apply aops_until | apply adraw_until); (simp (disch := first | exact List.all_nil | omega | (simp only [go_sem]; done) | (simp only [ln, List.length_map]; omega) | (repeat' first | assumption | exact Ext.refl _ | refine Ext.app ?_ _)) only [go_sem]; rfl))))
          refine ⟨by omega, rfl, by simp [forget], fun j hj => ?_⟩
          by_cases h : j = i
          · subst h; exact decide_eq_true heq
          · exact hp j (by omega)
      · ((repeat (first | refine q1 ?_ | refine q2 ?_ | refine q3 ?_ | refine q4 ?_ | refine q5 ?_ | refine q6 ?_ | refine q7 ?_ | refine q8 ?_ | refine q9 ?_ | refine qa ?_ | refine qb ?_ | refine qc ?_ | refine qd ?_ | refine qe (by decide) ?_ | refine qf ?_ | refine qg ?_ | ((first | apply aops_all | apply adraw_all); (simp (disch := first | exact List.all_nil | omega | (simp only [go_sem]; done) | (simp only [ln, List.length_map]; omega) | (repeat' first | assumption | exact Ext.refl _ | refine Ext.app ?_ _)) only [go_sem]; rfl)))); (try ((first | apply aops_until | apply adraw_until); (simp (disch := first | exact List.all_nil | omega | (simp only [go_sem]; done) | (simp only [ln, List.length_map]; omega) | (repeat' first | assumption | exact Ext.refl _ | refine Ext.app ?_ _)) only [go_sem]; rfl))))
        refine fin_1 ⟨?_, rfl⟩
        have : x.all (fun n => decide (-32767 ≤ n ∧ n ≤ 32767)) = true := all_true (d := 0) fun j hj => hp j (by omega)
        unfold signalErrL
        rw [if_neg (by omega), this]; rfl
theorem short_c {x : List Int} {v : Value} (hx : Ints H x v) : ACall Go.Proofs.Tryd.prog 22 [v] H fun v H' => v = .bool (decide (x.length ≤ 64 ∨ (400 < x.length ∧ x.length ≤ 402))) ∧ H' = H := by
  (refine a22 ?_; simp only [n22, List.replicate, List.length_cons, List.length_nil, List.cons_append, List.nil_append])
  by_cases h1 : (x.length : Int) ≤ 64
  · ((repeat (first | refine q1 ?_ | refine q2 ?_ | refine q3 ?_ | refine q4 ?_ | refine q5 ?_ | refine q6 ?_ | refine q7 ?_ | refine q8 ?_ | refine q9 ?_ | refine qa ?_ | refine qb ?_ | refine qc ?_ | refine qd ?_ | refine qe (by decide) ?_ | refine qf ?_ | refine qg ?_ | ((first | apply aops_all | apply adraw_all); (simp (disch := first | exact List.all_nil | omega | (simp only [go_sem]; done) | (simp only [ln, List.length_map]; omega) | (repeat' first | assumption | exact Ext.refl _ | refine Ext.app ?_ _)) only [go_sem, hx.len, hx.idx, hx.load, dec_t h1]; rfl)))); (try ((first | apply aops_until | apply adraw_until); (simp (disch := first | exact List.all_nil | omega | (simp only [go_sem]; done) | (simp only [ln, List.length_map]; omega) | (repeat' first | assumption | exact Ext.refl _ | refine Ext.app ?_ _)) only [go_sem, hx.len, hx.idx, hx.load, dec_t h1]; rfl))))
    refine fin_1 ⟨?_, rfl⟩
    rw [dec_t (show x.length ≤ 64 ∨ _ from .inl (by omega))]; rfl
  · by_cases h2 : 400 < (x.length : Int)
    · ((repeat (first | refine q1 ?_ | refine q2 ?_ | refine q3 ?_ | refine q4 ?_ | refine q5 ?_ | refine q6 ?_ | refine q7 ?_ | refine q8 ?_ | refine q9 ?_ | refine qa ?_ | refine qb ?_ | refine qc ?_ | refine qd ?_ | refine qe (by decide) ?_ | refine qf ?_ | refine qg ?_ | ((first | apply aops_all | apply adraw_all); (simp (disch := first | exact List.all_nil | omega | (simp only [go_sem]; done) | (simp only [ln, List.length_map]; omega) | (repeat' first | assumption | exact Ext.refl _ | refine Ext.app ?_ _)) only [go_sem, hx.len, hx.idx, hx.load, dec_f h1, dec_t h2]; rfl)))); (try ((first | apply aops_until | apply adraw_until); (simp (disch := first | exact List.all_nil | omega | (simp only [go_sem]; done) | (simp only [ln, List.length_map]; omega) | (repeat' first | assumption | exact Ext.refl _ | refine Ext.app ?_ _)) only [go_sem, hx.len, hx.idx, hx.load, dec_f h1, dec_t h2]; rfl))))
      refine fin_1 ⟨?_, rfl⟩
      show Value.bool _ = _
      congr 1
      exact decide_eq_decide.2 ⟨fun h => .inr ⟨by omega, by omega⟩, fun h => by omega⟩
    · ((repeat (first | refine q1 ?_ | refine q2 ?_ | refine q3 ?_ | refine q4 ?_ | refine q5 ?_ | refine q6 ?_ | refine q7 ?_ | refine q8 ?_ | refine q9 ?_ | refine qa ?_ | refine qb ?_ | refine qc ?_ | refine qd ?_ | refine qe (by decide) ?_ | refine qf ?_ | refine qg ?_ | ((first | apply aops_all | apply adraw_all); (simp (disch := first | exact List.all_nil | omega | (simp only [go_sem]; done) | (simp only [ln, List.length_map]; omega) | (repeat' first | assumption | exact Ext.refl _ | refine Ext.app ?_ _)) only [go_sem, hx.len, hx.idx, hx.load, dec_f h1, dec_f h2]; rfl)))); (try ((first | apply aops_until | apply adraw_until); (simp (disch := first | exact List.all_nil | omega | (simp only [go_sem]; done) | (simp only [ln, List.length_map]; omega) | (repeat' first | assumption | exact Ext.refl _ | refine Ext.app ?_ _)) only [go_sem, hx.len, hx.idx, hx.load, dec_f h1, dec_f h2]; rfl))))
      refine fin_1 ⟨?_, rfl⟩
      rw [dec_f (show ¬ (x.length ≤ 64 ∨ (400 < x.length ∧ x.length ≤ 402)) by omega)]; rfl
end
end Go.Lq

namespace Go.Lq
open Go
open Go.Proofs

def nilR (v : Value) (H : AHeap) : Option (Value × AHeap) := match v with | .pointer (some a) => some (.pointer (some a), H) | .func (.func f) xs ys => some (.func (.func f) xs ys, H) | _ => none
theorem r_nilCheck {ρ : Operand → Value} {H : AHeap} {x : Operand} : ropRun (.nilCheck x) ρ H = nilR (ρ x) H := rfl
theorem nil_ptr {a : Addr} {H : AHeap} : nilR (.pointer (some a)) H = some (.pointer (some a), H) := rfl
attribute [go_sem] r_nilCheck nil_ptr

section
variable {H : AHeap}
end
end Go.Lq





namespace Go.Lq
open Go
open Go.Proofs

attribute [go_sem] Bool.false_bne Bool.true_bne
theorem gcdI_step {a b : Int} : gcdI b (a.tmod b) = gcdI a b := by
  unfold gcdI Int.gcd
  rw [Int.natAbs_tmod, Nat.gcd_comm b.natAbs, ← Nat.gcd_rec, Nat.gcd_comm]
theorem gcdI_zero (a : Int) : gcdI a 0 = max a (-a) := by
  unfold gcdI
  rw [Int.gcd_zero_right]
  omega
theorem tmod_small {a b : Int} (hb : b ≠ 0) : (a.tmod b).natAbs < b.natAbs := by
  rw [Int.natAbs_tmod]
  exact Nat.mod_lt _ (by omega)
theorem low_tdiv {n d : Int} : n.tdiv (gcdI n d) = (lowF n d).1 ∧ d.tdiv (gcdI n d) = (lowF n d).2 :=
  ⟨Int.tdiv_eq_ediv_of_dvd (Int.gcd_dvd_left ..), Int.tdiv_eq_ediv_of_dvd (Int.gcd_dvd_right ..)⟩
theorem lowF_bound {n d : Int} {m : Nat} (hd : 0 < d) (h : -(m : Int) ≤ n ∧ n ≤ m) : -(m : Int) ≤ (lowF n d).1 ∧ (lowF n d).1 ≤ m := ediv_bound (gcdI_pos hd) h
theorem lowF_den_le {n d : Int} (hd : 0 < d) : (lowF n d).2 ≤ d := Int.ediv_le_self _ (by omega)
abbrev fracV (p : Int × Int) : Value := .agg ⟨[.int .i64 p.1, .int .i64 p.2]⟩
theorem closed_frac (p : Int × Int) : Closed (fracV p) := .agg _ (closed_list (l := [.int .i64 p.1, .int .i64 p.2]) fun v hv => by
  simp only [List.mem_cons, List.not_mem_nil, or_false] at hv
  rcases hv with rfl | rfl <;> exact .int _ _)
theorem closed_frac1 (p : Int × Int) (e : Int) : Closed (.tuple #[fracV p, .int .i64 e]) := .tuple _ (closed_list (l := [fracV p, .int .i64 e]) fun v hv => by
  simp only [List.mem_cons, List.not_mem_nil, or_false] at hv
  rcases hv with rfl | rfl
  · exact closed_frac p
  · exact .int _ _)
theorem fill2i {x y : Value} {a b : Int} : fillA [x, y] [(0, 1, .int .i64 a), (1, 1, .int .i64 b)] = some [.int .i64 a, .int .i64 b] := fill2v rfl

section
variable {H : AHeap}
theorem divisor_c (n d : Int) (hn : -4000000000000000000 ≤ n ∧ n ≤ 4000000000000000000) (hd : -4000000000000000000 ≤ d ∧ d ≤ 4000000000000000000) :
    ACall Go.Proofs.Tryd.prog 144 [.int .i64 n, .int .i64 d] H fun v H' => v = .int .i64 (gcdI n d) ∧ H' = H := by
  (refine a144 ?_; simp only [n144, List.replicate, List.length_cons, List.length_nil, List.cons_append, List.nil_append])
  ((repeat (first | refine q1 ?_ | refine q2 ?_ | refine q3 ?_ | refine q4 ?_ | refine q5 ?_ | refine q6 ?_ | refine q7 ?_ | refine q8 ?_ | refine q9 ?_ | refine qa ?_ | refine qb ?_ | refine qc ?_ | refine qd ?_ | refine qe (by decide) ?_ | refine qf ?_ | refine qg ?_ | ((first | apply aops_all | apply adraw_all); (simp (disch := first | exact List.all_nil | omega | (simp only [go_sem]; done) | (simp only [ln, List.length_map]; omega) | (repeat' first | assumption | exact Ext.refl _ | refine Ext.app ?_ _)) only [go_sem]; rfl)))); (try ((first | apply aops_until | apply adraw_until); (simp (disch := first | exact List.all_nil | omega | (simp only [go_sem]; done) | (simp only [ln, List.length_map]; omega) | (repeat' first | assumption | exact Ext.refl _ | refine Ext.app ?_ _)) only [go_sem]; rfl))))
  refine awp_loop [true, true, false, false, false, false, false, false, false, false, false, false, false, false, false] (fun k e H' => H' = H ∧ ∃ a b : Int, k = b.natAbs ∧ gcdI a b = gcdI n d ∧ (-4000000000000000000 ≤ a ∧ a ≤ 4000000000000000000) ∧ (-4000000000000000000 ≤ b ∧ b ≤ 4000000000000000000) ∧ e = [.int .i64 a, .int .i64 b, junk, junk, junk, junk, junk, junk, junk, junk, junk, junk, junk, junk, junk]) d.natAbs ?_ ?_
  · exact ⟨rfl, n, d, rfl, rfl, hn, hd, rfl⟩
  rintro k e H' ⟨rfl, a, b, rfl, hg, ha, hb, rfl⟩
  ((repeat (first | refine q1 ?_ | refine q2 ?_ | refine q3 ?_ | refine q4 ?_ | refine q5 ?_ | refine q6 ?_ | refine q7 ?_ | refine q8 ?_ | refine q9 ?_ | refine qa ?_ | refine qb ?_ | refine qc ?_ | refine qd ?_ | refine qe (by decide) ?_ | refine qf ?_ | refine qg ?_ | ((first | apply aops_all | apply adraw_all); (simp (disch := first | exact List.all_nil | omega | (simp only [go_sem]; done) | (simp only [ln, List.length_map]; omega) | (repeat' first | assumption | exact Ext.refl _ | refine Ext.app ?_ _)) only [go_sem]; rfl)))); (try ((first | apply aops_until | apply adraw_until); (simp (disch := first | exact List.all_nil | omega | (simp only [go_sem]; done) | (simp only [ln, List.length_map]; omega) | (repeat' first | assumption | exact Ext.refl _ | refine Ext.app ?_ _)) only [go_sem]; rfl))))
  refine cond_p rfl (fun hne => ?_) (fun heq => ?_)
  · have hm := tmod_small (a := a) hne
    ((repeat (first | refine q1 ?_ | refine q2 ?_ | refine q3 ?_ | refine q4 ?_ | refine q5 ?_ | refine q6 ?_ | refine q7 ?_ | refine q8 ?_ | refine q9 ?_ | refine qa ?_ | refine qb ?_ | refine qc ?_ | refine qd ?_ | refine qe (by decide) ?_ | refine qf ?_ | refine qg ?_ | ((first | apply aops_all | apply adraw_all); (simp (disch := first | exact List.all_nil | omega | (simp only [go_sem]; done) | (simp only [ln, List.length_map]; omega) | (repeat' first | assumption | exact Ext.refl _ | refine Ext.app ?_ _)) only [go_sem, a_rem hne]; rfl)))); (try ((first | apply aops_until | apply adraw_until); (simp (disch := first | exact List.all_nil | omega | (simp only [go_sem]; done) | (simp only [ln, List.length_map]; omega) | (repeat' first | assumption | exact Ext.refl _ | refine Ext.app ?_ _)) only [go_sem, a_rem hne]; rfl))))
    exact ⟨_, hm, rfl, b, a.tmod b, rfl, gcdI_step.trans hg, hb, by omega, rfl⟩
  · have h0 : b = 0 := by omega
    subst h0
    ((repeat (first | refine q1 ?_ | refine q2 ?_ | refine q3 ?_ | refine q4 ?_ | refine q5 ?_ | refine q6 ?_ | refine q7 ?_ | refine q8 ?_ | refine q9 ?_ | refine qa ?_ | refine qb ?_ | refine qc ?_ | refine qd ?_ | refine qe (by decide) ?_ | refine qf ?_ | refine qg ?_ | ((first | apply aops_all | apply adraw_all); (simp (disch := first | exact List.all_nil | omega | (simp only [go_sem]; done) | (simp only [ln, List.length_map]; omega) | (repeat' first | assumption | exact Ext.refl _ | refine Ext.app ?_ _)) only [go_sem]; rfl)))); (try ((first | apply aops_until | apply adraw_until); (simp (disch := first | exact List.all_nil | omega | (simp only [go_sem]; done) | (simp only [ln, List.length_map]; omega) | (repeat' first | assumption | exact Ext.refl _ | refine Ext.app ?_ _)) only [go_sem]; rfl))))
    exact fin_1 ⟨by rw [← hg, gcdI_zero]; simp, rfl⟩
theorem bgcd_c (n d : Int) (hn : -4000000000000000000 ≤ n ∧ n ≤ 4000000000000000000) (hd : -4000000000000000000 ≤ d ∧ d ≤ 4000000000000000000) :
    ACall Go.Proofs.Tryd.prog 122 [.int .i64 n, .int .i64 d] H fun v H' => v = .int .i64 (gcdI n d) ∧ H' = H := by
  (refine a122 ?_; simp only [n122, List.replicate, List.length_cons, List.length_nil, List.cons_append, List.nil_append])
  ((repeat (first | refine q1 ?_ | refine q2 ?_ | refine q3 ?_ | refine q4 ?_ | refine q5 ?_ | refine q6 ?_ | refine q7 ?_ | refine q8 ?_ | refine q9 ?_ | refine qa ?_ | refine qb ?_ | refine qc ?_ | refine qd ?_ | refine qe (by decide) ?_ | refine qf ?_ | refine qg ?_ | ((first | apply aops_all | apply adraw_all); (simp (disch := first | exact List.all_nil | omega | (simp only [go_sem]; done) | (simp only [ln, List.length_map]; omega) | (repeat' first | assumption | exact Ext.refl _ | refine Ext.app ?_ _)) only [go_sem]; rfl)))); (try ((first | apply aops_until | apply adraw_until); (simp (disch := first | exact List.all_nil | omega | (simp only [go_sem]; done) | (simp only [ln, List.length_map]; omega) | (repeat' first | assumption | exact Ext.refl _ | refine Ext.app ?_ _)) only [go_sem]; rfl))))
  refine awp_loop [true, true, false, false, false, false, false, false, false, false, false, false, false] (fun k e H' => H' = H ∧ ∃ a b : Int, k = b.natAbs ∧ gcdI a b = gcdI n d ∧ (-4000000000000000000 ≤ a ∧ a ≤ 4000000000000000000) ∧ (-4000000000000000000 ≤ b ∧ b ≤ 4000000000000000000) ∧ e = [.int .i64 a, .int .i64 b, junk, junk, junk, junk, junk, junk, junk, junk, junk, junk, junk]) d.natAbs ?_ ?_
  · exact ⟨rfl, n, d, rfl, rfl, hn, hd, rfl⟩
  rintro k e H' ⟨rfl, a, b, rfl, hg, ha, hb, rfl⟩
  ((repeat (first | refine q1 ?_ | refine q2 ?_ | refine q3 ?_ | refine q4 ?_ | refine q5 ?_ | refine q6 ?_ | refine q7 ?_ | refine q8 ?_ | refine q9 ?_ | refine qa ?_ | refine qb ?_ | refine qc ?_ | refine qd ?_ | refine qe (by decide) ?_ | refine qf ?_ | refine qg ?_ | ((first | apply aops_all | apply adraw_all); (simp (disch := first | exact List.all_nil | omega | (simp only [go_sem]; done) | (simp only [ln, List.length_map]; omega) | (repeat' first | assumption | exact Ext.refl _ | refine Ext.app ?_ _)) only [go_sem]; rfl)))); (try ((first | apply aops_until | apply adraw_until); (simp (disch := first | exact List.all_nil | omega | (simp only [go_sem]; done) | (simp only [ln, List.length_map]; omega) | (repeat' first | assumption | exact Ext.refl _ | refine Ext.app ?_ _)) only [go_sem]; rfl))))
  refine cond_p rfl (fun hne => ?_) (fun heq => ?_)
  · have hm := tmod_small (a := a) hne
    ((repeat (first | refine q1 ?_ | refine q2 ?_ | refine q3 ?_ | refine q4 ?_ | refine q5 ?_ | refine q6 ?_ | refine q7 ?_ | refine q8 ?_ | refine q9 ?_ | refine qa ?_ | refine qb ?_ | refine qc ?_ | refine qd ?_ | refine qe (by decide) ?_ | refine qf ?_ | refine qg ?_ | ((first | apply aops_all | apply adraw_all); (simp (disch := first | exact List.all_nil | omega | (simp only [go_sem]; done) | (simp only [ln, List.length_map]; omega) | (repeat' first | assumption | exact Ext.refl _ | refine Ext.app ?_ _)) only [go_sem, a_rem hne]; rfl)))); (try ((first | apply aops_until | apply adraw_until); (simp (disch := first | exact List.all_nil | omega | (simp only [go_sem]; done) | (simp only [ln, List.length_map]; omega) | (repeat' first | assumption | exact Ext.refl _ | refine Ext.app ?_ _)) only [go_sem, a_rem hne]; rfl))))
    exact ⟨_, hm, rfl, b, a.tmod b, rfl, gcdI_step.trans hg, hb, by omega, rfl⟩
  · have h0 : b = 0 := by omega
    subst h0
    ((repeat (first | refine q1 ?_ | refine q2 ?_ | refine q3 ?_ | refine q4 ?_ | refine q5 ?_ | refine q6 ?_ | refine q7 ?_ | refine q8 ?_ | refine q9 ?_ | refine qa ?_ | refine qb ?_ | refine qc ?_ | refine qd ?_ | refine qe (by decide) ?_ | refine qf ?_ | refine qg ?_ | ((first | apply aops_all | apply adraw_all); (simp (disch := first | exact List.all_nil | omega | (simp only [go_sem]; done) | (simp only [ln, List.length_map]; omega) | (repeat' first | assumption | exact Ext.refl _ | refine Ext.app ?_ _)) only [go_sem]; rfl)))); (try ((first | apply aops_until | apply adraw_until); (simp (disch := first | exact List.all_nil | omega | (simp only [go_sem]; done) | (simp only [ln, List.length_map]; omega) | (repeat' first | assumption | exact Ext.refl _ | refine Ext.app ?_ _)) only [go_sem]; rfl))))
    refine aops_call_to (bsize_c _ (by omega)) ?_
    ((repeat (first | refine q1 ?_ | refine q2 ?_ | refine q3 ?_ | refine q4 ?_ | refine q5 ?_ | refine q6 ?_ | refine q7 ?_ | refine q8 ?_ | refine q9 ?_ | refine qa ?_ | refine qb ?_ | refine qc ?_ | refine qd ?_ | refine qe (by decide) ?_ | refine qf ?_ | refine qg ?_ | ((first | apply aops_all | apply adraw_all); (simp (disch := first | exact List.all_nil | omega | (simp only [go_sem]; done) | (simp only [ln, List.length_map]; omega) | (repeat' first | assumption | exact Ext.refl _ | refine Ext.app ?_ _)) only [go_sem]; rfl)))); (try ((first | apply aops_until | apply adraw_until); (simp (disch := first | exact List.all_nil | omega | (simp only [go_sem]; done) | (simp only [ln, List.length_map]; omega) | (repeat' first | assumption | exact Ext.refl _ | refine Ext.app ?_ _)) only [go_sem]; rfl))))
    exact fin_1 ⟨by rw [← hg, gcdI_zero]; rfl, rfl⟩
theorem lowest_c (n d : Int) (hn : -4000000000000000000 ≤ n ∧ n ≤ 4000000000000000000) (hd : 0 < d ∧ d ≤ 4000000000000000000) :
    ACall Go.Proofs.Tryd.prog 121 [.int .i64 n, .int .i64 d] H fun v H' => v = fracV (lowF n d) ∧ H' = H := by
  have hp := gcdI_pos (n := n) hd.1
  have ne : gcdI n d ≠ 0 := by omega
  obtain ⟨e1, e2⟩ := low_tdiv (n := n) (d := d)
  have b1 := lowF_bound (n := n) (d := d) (m := 4000000000000000000) hd.1 ⟨by omega, by omega⟩
  have b2 := lowF_den_le (n := n) hd.1
  have b3 := lowF_pos (n := n) hd.1
  refine ACall.drop (closed_frac _) ?_
  (refine a121 ?_; simp only [n121, List.replicate, List.length_cons, List.length_nil, List.cons_append, List.nil_append])
  ((repeat (first | refine q1 ?_ | refine q2 ?_ | refine q3 ?_ | refine q4 ?_ | refine q5 ?_ | refine q6 ?_ | refine q7 ?_ | refine q8 ?_ | refine q9 ?_ | refine qa ?_ | refine qb ?_ | refine qc ?_ | refine qd ?_ | refine qe (by decide) ?_ | refine qf ?_ | refine qg ?_ | ((first | apply aops_all | apply adraw_all); (simp (disch := first | exact List.all_nil | omega | (simp only [go_sem]; done) | (simp only [ln, List.length_map]; omega) | (repeat' first | assumption | exact Ext.refl _ | refine Ext.app ?_ _)) only [go_sem]; rfl)))); (try ((first | apply aops_until | apply adraw_until); (simp (disch := first | exact List.all_nil | omega | (simp only [go_sem]; done) | (simp only [ln, List.length_map]; omega) | (repeat' first | assumption | exact Ext.refl _ | refine Ext.app ?_ _)) only [go_sem]; rfl))))
  refine aops_call_to (divisor_c n d hn ⟨by omega, hd.2⟩) ?_
  generalize gcdI n d = g at *
  generalize lowF n d = p at *
  ((repeat (first | refine q1 ?_ | refine q2 ?_ | refine q3 ?_ | refine q4 ?_ | refine q5 ?_ | refine q6 ?_ | refine q7 ?_ | refine q8 ?_ | refine q9 ?_ | refine qa ?_ | refine qb ?_ | refine qc ?_ | refine qd ?_ | refine qe (by decide) ?_ | refine qf ?_ | refine qg ?_ | ((first | apply aops_all | apply adraw_all); (simp (disch := first | exact List.all_nil | omega | (simp only [go_sem]; done) | (simp only [ln, List.length_map]; omega) | (repeat' first | assumption | exact Ext.refl _ | refine Ext.app ?_ _)) only [go_sem, a_quo ne, e1, e2, fill2i]; rfl)))); (try ((first | apply aops_until | apply adraw_until); (simp (disch := first | exact List.all_nil | omega | (simp only [go_sem]; done) | (simp only [ln, List.length_map]; omega) | (repeat' first | assumption | exact Ext.refl _ | refine Ext.app ?_ _)) only [go_sem, a_quo ne, e1, e2, fill2i]; rfl))))
  refine fin_l1 (u := fracV p) ?_ ?_
  · exact loadN_at at_new (by simp)
  · exact ⟨rfl, (Ext.refl _).app _⟩
theorem blowest_c (n d : Int) (hn : -4000000000000000000 ≤ n ∧ n ≤ 4000000000000000000) (hd : 0 < d ∧ d ≤ 4000000000000000000) :
    ACall Go.Proofs.Tryd.prog 125 [.int .i64 n, .int .i64 d] H fun v H' => v = fracV (lowF n d) ∧ H' = H := by
  have hp := gcdI_pos (n := n) hd.1
  have ne : gcdI n d ≠ 0 := by omega
  obtain ⟨e1, e2⟩ := low_tdiv (n := n) (d := d)
  have b1 := lowF_bound (n := n) (d := d) (m := 4000000000000000000) hd.1 ⟨by omega, by omega⟩
  have b2 := lowF_den_le (n := n) hd.1
  have b3 := lowF_pos (n := n) hd.1
  refine ACall.drop (closed_frac _) ?_
  (refine a125 ?_; simp only [n125, List.replicate, List.length_cons, List.length_nil, List.cons_append, List.nil_append])
  ((repeat (first | refine q1 ?_ | refine q2 ?_ | refine q3 ?_ | refine q4 ?_ | refine q5 ?_ | refine q6 ?_ | refine q7 ?_ | refine q8 ?_ | refine q9 ?_ | refine qa ?_ | refine qb ?_ | refine qc ?_ | refine qd ?_ | refine qe (by decide) ?_ | refine qf ?_ | refine qg ?_ | ((first | apply aops_all | apply adraw_all); (simp (disch := first | exact List.all_nil | omega | (simp only [go_sem]; done) | (simp only [ln, List.length_map]; omega) | (repeat' first | assumption | exact Ext.refl _ | refine Ext.app ?_ _)) only [go_sem]; rfl)))); (try ((first | apply aops_until | apply adraw_until); (simp (disch := first | exact List.all_nil | omega | (simp only [go_sem]; done) | (simp only [ln, List.length_map]; omega) | (repeat' first | assumption | exact Ext.refl _ | refine Ext.app ?_ _)) only [go_sem]; rfl))))
  refine aops_call_to (bgcd_c n d hn ⟨by omega, hd.2⟩) ?_
  generalize gcdI n d = g at *
  generalize lowF n d = p at *
  ((repeat (first | refine q1 ?_ | refine q2 ?_ | refine q3 ?_ | refine q4 ?_ | refine q5 ?_ | refine q6 ?_ | refine q7 ?_ | refine q8 ?_ | refine q9 ?_ | refine qa ?_ | refine qb ?_ | refine qc ?_ | refine qd ?_ | refine qe (by decide) ?_ | refine qf ?_ | refine qg ?_ | ((first | apply aops_all | apply adraw_all); (simp (disch := first | exact List.all_nil | omega | (simp only [go_sem]; done) | (simp only [ln, List.length_map]; omega) | (repeat' first | assumption | exact Ext.refl _ | refine Ext.app ?_ _)) only [go_sem]; rfl)))); (try ((first | apply aops_until | apply adraw_until); (simp (disch := first | exact List.all_nil | omega | (simp only [go_sem]; done) | (simp only [ln, List.length_map]; omega) | (repeat' first | assumption | exact Ext.refl _ | refine Ext.app ?_ _)) only [go_sem]; rfl))))
  refine cond_p rfl (fun hlt => absurd hlt (by omega)) (fun _ => ?_)
  ((repeat (first | refine q1 ?_ | refine q2 ?_ | refine q3 ?_ | refine q4 ?_ | refine q5 ?_ | refine q6 ?_ | refine q7 ?_ | refine q8 ?_ | refine q9 ?_ | refine qa ?_ | refine qb ?_ | refine qc ?_ | refine qd ?_ | refine qe (by decide) ?_ | refine qf ?_ | refine qg ?_ | ((first | apply aops_all | apply adraw_all); (simp (disch := first | exact List.all_nil | omega | (simp only [go_sem]; done) | (simp only [ln, List.length_map]; omega) | (repeat' first | assumption | exact Ext.refl _ | refine Ext.app ?_ _)) only [go_sem, a_quo ne, e1, e2, fill2i]; rfl)))); (try ((first | apply aops_until | apply adraw_until); (simp (disch := first | exact List.all_nil | omega | (simp only [go_sem]; done) | (simp only [ln, List.length_map]; omega) | (repeat' first | assumption | exact Ext.refl _ | refine Ext.app ?_ _)) only [go_sem, a_quo ne, e1, e2, fill2i]; rfl))))
  refine fin_l1 (u := fracV p) ?_ ?_
  · exact loadN_at at_new (by simp)
  · exact ⟨rfl, (Ext.refl _).app _⟩
end
end Go.Lq

namespace Go.Lq
open Go
open Go.Proofs

theorem isAtom_nilFunc : isAtom .nilFunc = true := rfl
theorem constOk_nilFunc : constOk .nilFunc = true := rfl
attribute [go_sem] r_idxA isAtom_nilFunc constOk_nilFunc
def wFn (deg : Int) : FuncId := if deg = 1 then 173 else 175
def pFn (deg : Int) : FuncId := if deg = 1 then 174 else 176
abbrev fnV (f : FuncId) : Value := .func (.func f) #[] #[]
def kern (deg : Int) : List Value := [.int .i64 (fromL deg), .int .i64 (denL deg), fnV (wFn deg), fnV (pFn deg), .int .i64 (rdenL deg)]
theorem kern_atoms (deg : Int) : (kern deg).all isAtom = true := rfl
theorem kern_idx {H : AHeap} {deg : Int} (hd : deg = 1 ∨ deg = 3) : idxAR 4 5 (.pointer (some ⟨0, 0, none⟩)) (.int .i64 deg) H = some (.pointer (some ⟨0, (5 * deg).toNat, none⟩), H) := by
  rcases hd with rfl | rfl
  · exact idxA_at (n := 1) (by omega)
  · exact idxA_at (n := 3) (by omega)
theorem kern_load {H : AHeap} (hx : Ext H0 H) {deg : Int} (hd : deg = 1 ∨ deg = 3) : loadNR 5 (.pointer (some ⟨0, (5 * deg).toNat, none⟩)) H = some (.agg ⟨kern deg⟩, H) := by
  have h0 : H[0]? = some (.cells false 5 kernelCells) := by rw [hx.get (by decide)]; rfl
  rcases hd with rfl | rfl
  · exact loadN_at h0 (by decide)
  · exact loadN_at h0 (by decide)
theorem store_kern {H : AHeap} {deg : Int} {a b c d e : Value} : storeR 5 (.pointer (some ⟨H.length, 0, none⟩)) (.agg ⟨kern deg⟩) (H ++ [.cells true 0 [a, b, c, d, e]]) = some (undef, H ++ [.cells true 0 (kern deg)]) := store_newN (kern_atoms deg) rfl rfl
section
variable {G : AHeap} {id : Nat} {deg : Int} {e : Nat}
theorem kern_p (h : G[id]? = some (.cells true e (kern deg))) : loadR (.pointer (some ⟨id, 3, none⟩)) G = some (fnV (pFn deg), G) := by rw [load_at h]; rfl
theorem kern_rden (h : G[id]? = some (.cells true e (kern deg))) : loadR (.pointer (some ⟨id, 4, none⟩)) G = some (.int .i64 (rdenL deg), G) := by rw [load_at h]; rfl
end

section
variable {H : AHeap}
theorem degreeErr_c (n : Int) : ACall Go.Proofs.Tryd.prog 95 [.int .i64 n] H fun v H' => v = .int .i64 (degErrL n) ∧ H' = H := by
  (refine a95 ?_; simp only [n95, List.replicate, List.length_cons, List.length_nil, List.cons_append, List.nil_append])
  by_cases h1 : n = 1
  · ((repeat (first | refine q1 ?_ | refine q2 ?_ | refine q3 ?_ | refine q4 ?_ | refine q5 ?_ | refine q6 ?_ | refine q7 ?_ | refine q8 ?_ | refine q9 ?_ | refine qa ?_ | refine qb ?_ | refine qc ?_ | refine qd ?_ | refine qe (by decide) ?_ | refine qf ?_ | refine qg ?_ | ((first | apply aops_all | apply adraw_all); (simp (disch := first | exact List.all_nil | omega | (simp only [go_sem]; done) | (simp only [ln, List.length_map]; omega) | (repeat' first | assumption | exact Ext.refl _ | refine Ext.app ?_ _)) only [go_sem, dec_t h1]; rfl)))); (try ((first | apply aops_until | apply adraw_until); (simp (disch := first | exact List.all_nil | omega | (simp only [go_sem]; done) | (simp only [ln, List.length_map]; omega) | (repeat' first | assumption | exact Ext.refl _ | refine Ext.app ?_ _)) only [go_sem, dec_t h1]; rfl))))
    refine aops_call_to (unless_c _ _) ?_
    ((repeat (first | refine q1 ?_ | refine q2 ?_ | refine q3 ?_ | refine q4 ?_ | refine q5 ?_ | refine q6 ?_ | refine q7 ?_ | refine q8 ?_ | refine q9 ?_ | refine qa ?_ | refine qb ?_ | refine qc ?_ | refine qd ?_ | refine qe (by decide) ?_ | refine qf ?_ | refine qg ?_ | ((first | apply aops_all | apply adraw_all); (simp (disch := first | exact List.all_nil | omega | (simp only [go_sem]; done) | (simp only [ln, List.length_map]; omega) | (repeat' first | assumption | exact Ext.refl _ | refine Ext.app ?_ _)) only [go_sem]; rfl)))); (try ((first | apply aops_until | apply adraw_until); (simp (disch := first | exact List.all_nil | omega | (simp only [go_sem]; done) | (simp only [ln, List.length_map]; omega) | (repeat' first | assumption | exact Ext.refl _ | refine Ext.app ?_ _)) only [go_sem]; rfl))))
    exact fin_1 ⟨by unfold degErrL; rw [if_pos (.inl h1)]; rfl, rfl⟩
  · ((repeat (first | refine q1 ?_ | refine q2 ?_ | refine q3 ?_ | refine q4 ?_ | refine q5 ?_ | refine q6 ?_ | refine q7 ?_ | refine q8 ?_ | refine q9 ?_ | refine qa ?_ | refine qb ?_ | refine qc ?_ | refine qd ?_ | refine qe (by decide) ?_ | refine qf ?_ | refine qg ?_ | ((first | apply aops_all | apply adraw_all); (simp (disch := first | exact List.all_nil | omega | (simp only [go_sem]; done) | (simp only [ln, List.length_map]; omega) | (repeat' first | assumption | exact Ext.refl _ | refine Ext.app ?_ _)) only [go_sem, dec_f h1]; rfl)))); (try ((first | apply aops_until | apply adraw_until); (simp (disch := first | exact List.all_nil | omega | (simp only [go_sem]; done) | (simp only [ln, List.length_map]; omega) | (repeat' first | assumption | exact Ext.refl _ | refine Ext.app ?_ _)) only [go_sem, dec_f h1]; rfl))))
    refine aops_call_to (unless_c _ _) ?_
    ((repeat (first | refine q1 ?_ | refine q2 ?_ | refine q3 ?_ | refine q4 ?_ | refine q5 ?_ | refine q6 ?_ | refine q7 ?_ | refine q8 ?_ | refine q9 ?_ | refine qa ?_ | refine qb ?_ | refine qc ?_ | refine qd ?_ | refine qe (by decide) ?_ | refine qf ?_ | refine qg ?_ | ((first | apply aops_all | apply adraw_all); (simp (disch := first | exact List.all_nil | omega | (simp only [go_sem]; done) | (simp only [ln, List.length_map]; omega) | (repeat' first | assumption | exact Ext.refl _ | refine Ext.app ?_ _)) only [go_sem]; rfl)))); (try ((first | apply aops_until | apply adraw_until); (simp (disch := first | exact List.all_nil | omega | (simp only [go_sem]; done) | (simp only [ln, List.length_map]; omega) | (repeat' first | assumption | exact Ext.refl _ | refine Ext.app ?_ _)) only [go_sem]; rfl))))
    exact fin_1 ⟨by unfold degErrL; by_cases h3 : n = 3 <;> simp [h1, h3], rfl⟩
theorem fractionErr_c (n : Int) : ACall Go.Proofs.Tryd.prog 99 [.int .i64 n] H fun v H' => v = .int .i64 (fracErrL n) ∧ H' = H := by
  (refine a99 ?_; simp only [n99, List.replicate, List.length_cons, List.length_nil, List.cons_append, List.nil_append])
  ((repeat (first | refine q1 ?_ | refine q2 ?_ | refine q3 ?_ | refine q4 ?_ | refine q5 ?_ | refine q6 ?_ | refine q7 ?_ | refine q8 ?_ | refine q9 ?_ | refine qa ?_ | refine qb ?_ | refine qc ?_ | refine qd ?_ | refine qe (by decide) ?_ | refine qf ?_ | refine qg ?_ | ((first | apply aops_all | apply adraw_all); (simp (disch := first | exact List.all_nil | omega | (simp only [go_sem]; done) | (simp only [ln, List.length_map]; omega) | (repeat' first | assumption | exact Ext.refl _ | refine Ext.app ?_ _)) only [go_sem]; rfl)))); (try ((first | apply aops_until | apply adraw_until); (simp (disch := first | exact List.all_nil | omega | (simp only [go_sem]; done) | (simp only [ln, List.length_map]; omega) | (repeat' first | assumption | exact Ext.refl _ | refine Ext.app ?_ _)) only [go_sem]; rfl))))
  refine aops_call_to (within_c _ _ _) ?_
  ((repeat (first | refine q1 ?_ | refine q2 ?_ | refine q3 ?_ | refine q4 ?_ | refine q5 ?_ | refine q6 ?_ | refine q7 ?_ | refine q8 ?_ | refine q9 ?_ | refine qa ?_ | refine qb ?_ | refine qc ?_ | refine qd ?_ | refine qe (by decide) ?_ | refine qf ?_ | refine qg ?_ | ((first | apply aops_all | apply adraw_all); (simp (disch := first | exact List.all_nil | omega | (simp only [go_sem]; done) | (simp only [ln, List.length_map]; omega) | (repeat' first | assumption | exact Ext.refl _ | refine Ext.app ?_ _)) only [go_sem]; rfl)))); (try ((first | apply aops_until | apply adraw_until); (simp (disch := first | exact List.all_nil | omega | (simp only [go_sem]; done) | (simp only [ln, List.length_map]; omega) | (repeat' first | assumption | exact Ext.refl _ | refine Ext.app ?_ _)) only [go_sem]; rfl))))
  refine aops_call_to (unless_c _ _) ?_
  ((repeat (first | refine q1 ?_ | refine q2 ?_ | refine q3 ?_ | refine q4 ?_ | refine q5 ?_ | refine q6 ?_ | refine q7 ?_ | refine q8 ?_ | refine q9 ?_ | refine qa ?_ | refine qb ?_ | refine qc ?_ | refine qd ?_ | refine qe (by decide) ?_ | refine qf ?_ | refine qg ?_ | ((first | apply aops_all | apply adraw_all); (simp (disch := first | exact List.all_nil | omega | (simp only [go_sem]; done) | (simp only [ln, List.length_map]; omega) | (repeat' first | assumption | exact Ext.refl _ | refine Ext.app ?_ _)) only [go_sem]; rfl)))); (try ((first | apply aops_until | apply adraw_until); (simp (disch := first | exact List.all_nil | omega | (simp only [go_sem]; done) | (simp only [ln, List.length_map]; omega) | (repeat' first | assumption | exact Ext.refl _ | refine Ext.app ?_ _)) only [go_sem]; rfl))))
  exact fin_1 ⟨by unfold fracErrL; by_cases h : 0 ≤ n ∧ n ≤ 63 <;> simp [h], rfl⟩
theorem refDegreeErr_c (n : Int) : ACall Go.Proofs.Tryd.prog 29 [.int .i64 n] H fun v H' => v = .int .i64 (degErrL n) ∧ H' = H := by
  (refine a29 ?_; simp only [n29, List.replicate, List.length_cons, List.length_nil, List.cons_append, List.nil_append])
  by_cases h1 : n = 1
  · ((repeat (first | refine q1 ?_ | refine q2 ?_ | refine q3 ?_ | refine q4 ?_ | refine q5 ?_ | refine q6 ?_ | refine q7 ?_ | refine q8 ?_ | refine q9 ?_ | refine qa ?_ | refine qb ?_ | refine qc ?_ | refine qd ?_ | refine qe (by decide) ?_ | refine qf ?_ | refine qg ?_ | ((first | apply aops_all | apply adraw_all); (simp (disch := first | exact List.all_nil | omega | (simp only [go_sem]; done) | (simp only [ln, List.length_map]; omega) | (repeat' first | assumption | exact Ext.refl _ | refine Ext.app ?_ _)) only [go_sem, dec_f (show ¬ n ≠ 1 by omega)]; rfl)))); (try ((first | apply aops_until | apply adraw_until); (simp (disch := first | exact List.all_nil | omega | (simp only [go_sem]; done) | (simp only [ln, List.length_map]; omega) | (repeat' first | assumption | exact Ext.refl _ | refine Ext.app ?_ _)) only [go_sem, dec_f (show ¬ n ≠ 1 by omega)]; rfl))))
    refine cond_f rfl ?_
    ((repeat (first | refine q1 ?_ | refine q2 ?_ | refine q3 ?_ | refine q4 ?_ | refine q5 ?_ | refine q6 ?_ | refine q7 ?_ | refine q8 ?_ | refine q9 ?_ | refine qa ?_ | refine qb ?_ | refine qc ?_ | refine qd ?_ | refine qe (by decide) ?_ | refine qf ?_ | refine qg ?_ | ((first | apply aops_all | apply adraw_all); (simp (disch := first | exact List.all_nil | omega | (simp only [go_sem]; done) | (simp only [ln, List.length_map]; omega) | (repeat' first | assumption | exact Ext.refl _ | refine Ext.app ?_ _)) only [go_sem]; rfl)))); (try ((first | apply aops_until | apply adraw_until); (simp (disch := first | exact List.all_nil | omega | (simp only [go_sem]; done) | (simp only [ln, List.length_map]; omega) | (repeat' first | assumption | exact Ext.refl _ | refine Ext.app ?_ _)) only [go_sem]; rfl))))
    exact fin_1 ⟨by unfold degErrL; rw [if_pos (.inl h1)]; rfl, rfl⟩
  · by_cases h3 : n = 3
    · ((repeat (first | refine q1 ?_ | refine q2 ?_ | refine q3 ?_ | refine q4 ?_ | refine q5 ?_ | refine q6 ?_ | refine q7 ?_ | refine q8 ?_ | refine q9 ?_ | refine qa ?_ | refine qb ?_ | refine qc ?_ | refine qd ?_ | refine qe (by decide) ?_ | refine qf ?_ | refine qg ?_ | ((first | apply aops_all | apply adraw_all); (simp (disch := first | exact List.all_nil | omega | (simp only [go_sem]; done) | (simp only [ln, List.length_map]; omega) | (repeat' first | assumption | exact Ext.refl _ | refine Ext.app ?_ _)) only [go_sem, dec_t h1, dec_f (show ¬ n ≠ 3 by omega)]; rfl)))); (try ((first | apply aops_until | apply adraw_until); (simp (disch := first | exact List.all_nil | omega | (simp only [go_sem]; done) | (simp only [ln, List.length_map]; omega) | (repeat' first | assumption | exact Ext.refl _ | refine Ext.app ?_ _)) only [go_sem, dec_t h1, dec_f (show ¬ n ≠ 3 by omega)]; rfl))))
      refine cond_f rfl ?_
      ((repeat (first | refine q1 ?_ | refine q2 ?_ | refine q3 ?_ | refine q4 ?_ | refine q5 ?_ | refine q6 ?_ | refine q7 ?_ | refine q8 ?_ | refine q9 ?_ | refine qa ?_ | refine qb ?_ | refine qc ?_ | refine qd ?_ | refine qe (by decide) ?_ | refine qf ?_ | refine qg ?_ | ((first | apply aops_all | apply adraw_all); (simp (disch := first | exact List.all_nil | omega | (simp only [go_sem]; done) | (simp only [ln, List.length_map]; omega) | (repeat' first | assumption | exact Ext.refl _ | refine Ext.app ?_ _)) only [go_sem]; rfl)))); (try ((first | apply aops_until | apply adraw_until); (simp (disch := first | exact List.all_nil | omega | (simp only [go_sem]; done) | (simp only [ln, List.length_map]; omega) | (repeat' first | assumption | exact Ext.refl _ | refine Ext.app ?_ _)) only [go_sem]; rfl))))
      exact fin_1 ⟨by unfold degErrL; rw [if_pos (.inr h3)]; rfl, rfl⟩
    · ((repeat (first | refine q1 ?_ | refine q2 ?_ | refine q3 ?_ | refine q4 ?_ | refine q5 ?_ | refine q6 ?_ | refine q7 ?_ | refine q8 ?_ | refine q9 ?_ | refine qa ?_ | refine qb ?_ | refine qc ?_ | refine qd ?_ | refine qe (by decide) ?_ | refine qf ?_ | refine qg ?_ | ((first | apply aops_all | apply adraw_all); (simp (disch := first | exact List.all_nil | omega | (simp only [go_sem]; done) | (simp only [ln, List.length_map]; omega) | (repeat' first | assumption | exact Ext.refl _ | refine Ext.app ?_ _)) only [go_sem, dec_t h1, dec_t h3]; rfl)))); (try ((first | apply aops_until | apply adraw_until); (simp (disch := first | exact List.all_nil | omega | (simp only [go_sem]; done) | (simp only [ln, List.length_map]; omega) | (repeat' first | assumption | exact Ext.refl _ | refine Ext.app ?_ _)) only [go_sem, dec_t h1, dec_t h3]; rfl))))
      refine cond_t rfl ?_
      ((repeat (first | refine q1 ?_ | refine q2 ?_ | refine q3 ?_ | refine q4 ?_ | refine q5 ?_ | refine q6 ?_ | refine q7 ?_ | refine q8 ?_ | refine q9 ?_ | refine qa ?_ | refine qb ?_ | refine qc ?_ | refine qd ?_ | refine qe (by decide) ?_ | refine qf ?_ | refine qg ?_ | ((first | apply aops_all | apply adraw_all); (simp (disch := first | exact List.all_nil | omega | (simp only [go_sem]; done) | (simp only [ln, List.length_map]; omega) | (repeat' first | assumption | exact Ext.refl _ | refine Ext.app ?_ _)) only [go_sem]; rfl)))); (try ((first | apply aops_until | apply adraw_until); (simp (disch := first | exact List.all_nil | omega | (simp only [go_sem]; done) | (simp only [ln, List.length_map]; omega) | (repeat' first | assumption | exact Ext.refl _ | refine Ext.app ?_ _)) only [go_sem]; rfl))))
      exact fin_1 ⟨by unfold degErrL; rw [if_neg (by omega)]; rfl, rfl⟩
theorem refFractionErr_c (n : Int) : ACall Go.Proofs.Tryd.prog 38 [.int .i64 n] H fun v H' => v = .int .i64 (fracErrL n) ∧ H' = H := by
  (refine a38 ?_; simp only [n38, List.replicate, List.length_cons, List.length_nil, List.cons_append, List.nil_append])
  ((repeat (first | refine q1 ?_ | refine q2 ?_ | refine q3 ?_ | refine q4 ?_ | refine q5 ?_ | refine q6 ?_ | refine q7 ?_ | refine q8 ?_ | refine q9 ?_ | refine qa ?_ | refine qb ?_ | refine qc ?_ | refine qd ?_ | refine qe (by decide) ?_ | refine qf ?_ | refine qg ?_ | ((first | apply aops_all | apply adraw_all); (simp (disch := first | exact List.all_nil | omega | (simp only [go_sem]; done) | (simp only [ln, List.length_map]; omega) | (repeat' first | assumption | exact Ext.refl _ | refine Ext.app ?_ _)) only [go_sem]; rfl)))); (try ((first | apply aops_until | apply adraw_until); (simp (disch := first | exact List.all_nil | omega | (simp only [go_sem]; done) | (simp only [ln, List.length_map]; omega) | (repeat' first | assumption | exact Ext.refl _ | refine Ext.app ?_ _)) only [go_sem]; rfl))))
  refine aops_call_to (bwithin_c _ _ _) ?_
  ((repeat (first | refine q1 ?_ | refine q2 ?_ | refine q3 ?_ | refine q4 ?_ | refine q5 ?_ | refine q6 ?_ | refine q7 ?_ | refine q8 ?_ | refine q9 ?_ | refine qa ?_ | refine qb ?_ | refine qc ?_ | refine qd ?_ | refine qe (by decide) ?_ | refine qf ?_ | refine qg ?_ | ((first | apply aops_all | apply adraw_all); (simp (disch := first | exact List.all_nil | omega | (simp only [go_sem]; done) | (simp only [ln, List.length_map]; omega) | (repeat' first | assumption | exact Ext.refl _ | refine Ext.app ?_ _)) only [go_sem]; rfl)))); (try ((first | apply aops_until | apply adraw_until); (simp (disch := first | exact List.all_nil | omega | (simp only [go_sem]; done) | (simp only [ln, List.length_map]; omega) | (repeat' first | assumption | exact Ext.refl _ | refine Ext.app ?_ _)) only [go_sem]; rfl))))
  refine cond_n rfl (fun hne => ?_) (fun heq => ?_)
  · ((repeat (first | refine q1 ?_ | refine q2 ?_ | refine q3 ?_ | refine q4 ?_ | refine q5 ?_ | refine q6 ?_ | refine q7 ?_ | refine q8 ?_ | refine q9 ?_ | refine qa ?_ | refine qb ?_ | refine qc ?_ | refine qd ?_ | refine qe (by decide) ?_ | refine qf ?_ | refine qg ?_ | ((first | apply aops_all | apply adraw_all); (simp (disch := first | exact List.all_nil | omega | (simp only [go_sem]; done) | (simp only [ln, List.length_map]; omega) | (repeat' first | assumption | exact Ext.refl _ | refine Ext.app ?_ _)) only [go_sem]; rfl)))); (try ((first | apply aops_until | apply adraw_until); (simp (disch := first | exact List.all_nil | omega | (simp only [go_sem]; done) | (simp only [ln, List.length_map]; omega) | (repeat' first | assumption | exact Ext.refl _ | refine Ext.app ?_ _)) only [go_sem]; rfl))))
    exact fin_1 ⟨by unfold fracErrL; rw [if_neg hne]; rfl, rfl⟩
  · ((repeat (first | refine q1 ?_ | refine q2 ?_ | refine q3 ?_ | refine q4 ?_ | refine q5 ?_ | refine q6 ?_ | refine q7 ?_ | refine q8 ?_ | refine q9 ?_ | refine qa ?_ | refine qb ?_ | refine qc ?_ | refine qd ?_ | refine qe (by decide) ?_ | refine qf ?_ | refine qg ?_ | ((first | apply aops_all | apply adraw_all); (simp (disch := first | exact List.all_nil | omega | (simp only [go_sem]; done) | (simp only [ln, List.length_map]; omega) | (repeat' first | assumption | exact Ext.refl _ | refine Ext.app ?_ _)) only [go_sem]; rfl)))); (try ((first | apply aops_until | apply adraw_until); (simp (disch := first | exact List.all_nil | omega | (simp only [go_sem]; done) | (simp only [ln, List.length_map]; omega) | (repeat' first | assumption | exact Ext.refl _ | refine Ext.app ?_ _)) only [go_sem]; rfl))))
    exact fin_1 ⟨by unfold fracErrL; rw [if_pos heq]; rfl, rfl⟩

/-- The product of a kernel. -/
theorem product_c {deg f : Int} (hd : deg = 1 ∨ deg = 3) (h : 0 ≤ f ∧ f ≤ 63) : ACall Go.Proofs.Tryd.prog (pFn deg) [.int .i64 f] H fun v H' => v = .int .i64 (prodL deg f) ∧ H' = H := by
  have m1 := mul_abs (x := f) (y := f - 64) (a := 63) (b := 64) ⟨by omega, by omega⟩ ⟨by omega, by omega⟩
  have m7 := mul_abs (x := f + 64) (y := f) (a := 127) (b := 63) ⟨by omega, by omega⟩ ⟨by omega, by omega⟩
  have m8 := mul_abs (x := (f + 64) * f) (y := f - 64) (a := 8001) (b := 64) ⟨by omega, by omega⟩ ⟨by omega, by omega⟩
  have m9 := mul_abs (x := (f + 64) * f * (f - 64)) (y := f - 128) (a := 512064) (b := 128) ⟨by omega, by omega⟩ ⟨by omega, by omega⟩
  rcases hd with rfl | rfl
  · show ACall _ 174 _ _ _
    (refine a174 ?_; simp only [n174, List.replicate, List.length_cons, List.length_nil, List.cons_append, List.nil_append])
    ((repeat (first | refine q1 ?_ | refine q2 ?_ | refine q3 ?_ | refine q4 ?_ | refine q5 ?_ | refine q6 ?_ | refine q7 ?_ | refine q8 ?_ | refine q9 ?_ | refine qa ?_ | refine qb ?_ | refine qc ?_ | refine qd ?_ | refine qe (by decide) ?_ | refine qf ?_ | refine qg ?_ | ((first | apply aops_all | apply adraw_all); (simp (disch := first | exact List.all_nil | omega | (simp only [go_sem]; done) | (simp only [ln, List.length_map]; omega) | (repeat' first | assumption | exact Ext.refl _ | refine Ext.app ?_ _)) only [go_sem]; rfl)))); (try ((first | apply aops_until | apply adraw_until); (simp (disch := first | exact List.all_nil | omega | (simp only [go_sem]; done) | (simp only [ln, List.length_map]; omega) | (repeat' first | assumption | exact Ext.refl _ | refine Ext.app ?_ _)) only [go_sem]; rfl))))
    exact fin_1 ⟨rfl, rfl⟩
  · show ACall _ 176 _ _ _
    (refine a176 ?_; simp only [n176, List.replicate, List.length_cons, List.length_nil, List.cons_append, List.nil_append])
    ((repeat (first | refine q1 ?_ | refine q2 ?_ | refine q3 ?_ | refine q4 ?_ | refine q5 ?_ | refine q6 ?_ | refine q7 ?_ | refine q8 ?_ | refine q9 ?_ | refine qa ?_ | refine qb ?_ | refine qc ?_ | refine qd ?_ | refine qe (by decide) ?_ | refine qf ?_ | refine qg ?_ | ((first | apply aops_all | apply adraw_all); (simp (disch := first | exact List.all_nil | omega | (simp only [go_sem]; done) | (simp only [ln, List.length_map]; omega) | (repeat' first | assumption | exact Ext.refl _ | refine Ext.app ?_ _)) only [go_sem]; rfl)))); (try ((first | apply aops_until | apply adraw_until); (simp (disch := first | exact List.all_nil | omega | (simp only [go_sem]; done) | (simp only [ln, List.length_map]; omega) | (repeat' first | assumption | exact Ext.refl _ | refine Ext.app ?_ _)) only [go_sem]; rfl))))
    exact fin_1 ⟨rfl, rfl⟩
end
end Go.Lq


namespace Go.Lq
open Go
open Go.Proofs

def wAtErrL (deg f : Int) : Int := firstErr [degErrL deg, fracErrL f]
theorem wAtErr_d {deg f : Int} (h : degErrL deg ≠ 0) : wAtErrL deg f = degErrL deg := by unfold wAtErrL firstErr; simp [h]
theorem wAtErr_f {deg f : Int} (h : degErrL deg = 0) : wAtErrL deg f = fracErrL f := by
  unfold wAtErrL firstErr
  by_cases h2 : fracErrL f = 0 <;> simp [h, h2]
theorem wAtErr_ok {deg f : Int} (h : wAtErrL deg f = 0) : (deg = 1 ∨ deg = 3) ∧ 0 ≤ f ∧ f ≤ 63 := by
  by_cases h1 : degErrL deg = 0
  · rw [wAtErr_f h1] at h
    exact ⟨degErr_ok h1, fracErr_ok h⟩
  · rw [wAtErr_d h1] at h
    exact absurd h h1
section
variable {H : AHeap}
end
end Go.Lq

namespace Go.Lq
open Go
open Go.Proofs

theorem store_b1 {H : AHeap} {id e : Nat} {x y : Value} (h : H[id]? = some (.cells true e [x])) (ha : isAtom y = true) (hc : y.cells = ⟨[y]⟩) : storeR 1 (.pointer (some ⟨id, 0, none⟩)) y H = some (undef, H.set id (.cells true e [y])) := by
  have e2 : ([y] : List Value).all isAtom = true := by simp [ha]
  have e3 : setCells [x] 0 [y] = [y] := rfl
  simp only [storeR, hc, List.size_toArray, storeAt, h, e2, e3, and_true, List.length_cons, List.length_nil]
  rfl
theorem store_b2 {H : AHeap} {id e : Nat} {x y : Value} {a b : Int} (h : H[id]? = some (.cells true e [x, y])) : storeR 2 (.pointer (some ⟨id, 0, none⟩)) (.agg ⟨[.int .i64 a, .int .i64 b]⟩) H = some (undef, H.set id (.cells true e [.int .i64 a, .int .i64 b])) := store_at2v h rfl rfl
/-! ### A slice in a box, grown in a range over a function -/
theorem OwnI.aside {H0 H : AHeap} {l : List Int} {v : Value} (h : OwnI H0 H l v) {j : Nat} (hj : j < H0.length) : l.length = 0 ∨ idOf v ≠ j := by
  rcases h.2 with ⟨rfl, h0⟩ | ⟨id, rfl, h1, _, _⟩
  · exact .inl h0
  · exact .inr (by show id ≠ j; omega)
theorem OwnI.pushedL {H0 H : AHeap} {l : List Int} {v : Value} (h : OwnI H0 H l v) (hx : H0.length ≤ H.length) (x : Int) : OwnI H0 (pushH H v l x) (l ++ [x]) (pushV H l.length) := by
  have := Own.appended (h.app [.cells true 1 [.int .i64 x]]) (m := 1) (cs := [.int .i64 x]) rfl (by omega) (by simp; omega)
  unfold OwnI
  simpa [pushV, pushH] using this
theorem Keeps.push {k : Nat} {G G' H : AHeap} {l : List Int} {v : Value} (h : Keeps k G H) (ho : OwnI G' H l v) (hg : G.length ≤ G'.length) (x : Int) : Keeps k G (pushH H v l x) := by
  refine ⟨by rw [pushH_len]; have := h.1; omega, fun i hi hk => ?_⟩
  have hl : i < H.length := by have := h.1; omega
  unfold pushH
  rw [appH_at (by simp; omega) (ho.nil_or (ho.aside (by omega))), List.getElem?_append_left hl]
  exact h.2 i hi hk
/-- The box at k holds a slice of the call's own; else all is as in G (of which the object behind it is another's). -/
structure BoxI (k : Nat) (G : AHeap) (l : List Int) (v : Value) (H : AHeap) : Prop where
  keeps : Keeps k G H
  box : H[k]? = some (.cells true 0 [v])
  own : OwnI (G ++ [.dead]) H l v
theorem BoxI.set {k : Nat} {G H : AHeap} {l : List Int} {v : Value} (h : BoxI k G l v H) (hk : k < G.length) (c : AObj) : BoxI k G l v (H.set G.length c) :=
  ⟨h.keeps.set (.inr (Nat.le_refl _)) _, by rw [List.getElem?_set_ne (by omega)]; exact h.box, h.own.set_ne (h.own.aside (by simp)) _⟩
theorem BoxI.app {k : Nat} {G H : AHeap} {l : List Int} {v : Value} (h : BoxI k G l v H) (N : AHeap) : BoxI k G l v (H ++ N) :=
  ⟨h.keeps.app N, at_app h.box, h.own.app N⟩
theorem BoxI.push {k : Nat} {G H : AHeap} {l : List Int} {v : Value} (h : BoxI k G l v H) (hk : k < G.length) (hl : G.length < H.length) (x : Int) {Rb : AObj} (hR : H[G.length]? = some Rb) :
    storeR 1 (.pointer (some ⟨k, 0, none⟩)) (pushV H l.length) (pushH H v l x) = some (undef, (pushH H v l x).set k (.cells true 0 [pushV H l.length])) ∧
    BoxI k G (l ++ [x]) (pushV H l.length) ((pushH H v l x).set k (.cells true 0 [pushV H l.length])) ∧ ((pushH H v l x).set k (.cells true 0 [pushV H l.length]))[G.length]? = some Rb := by
  have b1 := pushH_at (l := l) (x := x) h.box (h.own.nil_or (h.own.aside (by simp; omega)))
  have b2 := pushH_at (l := l) (x := x) hR (h.own.nil_or (h.own.aside (by simp)))
  refine ⟨store_b1 b1 rfl rfl, ⟨(h.keeps.push h.own (by simp) x).set (.inl rfl) _, get_set_self b1, ?_⟩, by rw [List.getElem?_set_ne (by omega)]; exact b2⟩
  have ho := h.own.pushedL (by simp; omega) x
  exact ho.set_ne (.inr (by show H.length + 1 ≠ k; omega)) _

/-! ### slices.Backward over numbers -/
theorem fill_none (zs : List Value) : fillA zs [] = some zs := rfl
theorem fin_l2f {c : RCode} {n a b : Nat} {R : Value → AHeap → Prop} {e : Env} {H : AHeap} {id : Nat} {o : Bool} {z : Nat} {x y : Value} (hp : e.getD a undef = .pointer (some ⟨id, 0, none⟩)) (h1 : H[id]? = some (.cells o z [x, y])) (h : R (.tuple #[.agg ⟨[x, y]⟩, e.getD b undef]) H) :
    Fin ⟨c, n, [.loadN 2 a, .tmp b]⟩ R .ret e H := fin_l2 (u := .agg ⟨[x, y]⟩) (by rw [hp]; exact loadN_at h1 (by simp)) h

section
variable {H : AHeap}
end
end Go.Lq

namespace Go.Lq
open Go
open Go.Proofs

theorem most_max3 {a b c : Int} {H : AHeap} : mostR true (.int .i64 a) [.int .i64 b, .int .i64 c] H = some (.int .i64 (max (max a b) c), H) := by
  simp only [mostR, mostA, Option.map_some, if_true]
  congr 3
  split <;> split <;> omega
theorem most_min3 {a b c : Int} {H : AHeap} : mostR false (.int .i64 a) [.int .i64 b, .int .i64 c] H = some (.int .i64 (min (min a b) c), H) := by
  simp only [mostR, mostA, Option.map_some]
  congr 3
  simp only [Bool.false_eq_true, if_false]
  split <;> split <;> omega
attribute [go_sem] most_max3 most_min3
def remAtL (deg f : Int) : Int × Int := if wAtErrL deg f = 0 then remL deg f else (0, 0)
def maxRemAtL (deg : Int) : Int × Int := if degErrL deg = 0 then maxRemL deg else (0, 0)
def cmpF (a b : Int × Int) : Int := if a.1 * b.2 < b.1 * a.2 then -1 else if b.1 * a.2 < a.1 * b.2 then 1 else 0
theorem Ext.last_set {A H' : AHeap} {c : AObj} (h : Ext (A ++ [c]) H') (c' : AObj) : Ext (A ++ [c']) (H'.set A.length c') := by
  obtain ⟨M, rfl⟩ := h
  exact ⟨M, by simp⟩

section
variable {H : AHeap}
theorem remainderAt_c {deg f : Int} (hx : Ext H0 H) : ACall Go.Proofs.Tryd.prog 63 [.int .i64 deg, .int .i64 f] H fun v H' =>
    v = .tuple #[fracV (remAtL deg f), .int .i64 (wAtErrL deg f)] ∧ H' = H := by
  refine ACall.drop (closed_frac1 _ _) ?_
  (refine a63 ?_; simp only [n63, List.replicate, List.length_cons, List.length_nil, List.cons_append, List.nil_append])
  ((repeat (first | refine q1 ?_ | refine q2 ?_ | refine q3 ?_ | refine q4 ?_ | refine q5 ?_ | refine q6 ?_ | refine q7 ?_ | refine q8 ?_ | refine q9 ?_ | refine qa ?_ | refine qb ?_ | refine qc ?_ | refine qd ?_ | refine qe (by decide) ?_ | refine qf ?_ | refine qg ?_ | ((first | apply aops_all | apply adraw_all); (simp (disch := first | exact List.all_nil | omega | (simp only [go_sem]; done) | (simp only [ln, List.length_map]; omega) | (repeat' first | assumption | exact Ext.refl _ | refine Ext.app ?_ _)) only [go_sem]; rfl)))); (try ((first | apply aops_until | apply adraw_until); (simp (disch := first | exact List.all_nil | omega | (simp only [go_sem]; done) | (simp only [ln, List.length_map]; omega) | (repeat' first | assumption | exact Ext.refl _ | refine Ext.app ?_ _)) only [go_sem]; rfl))))
  have y0 : (H ++ [AObj.cells true 0 [.int .i64 0, .int .i64 0]])[H.length]? = some (.cells true 0 [.int .i64 0, .int .i64 0]) := at_new
  have x0 : Ext H (H ++ [AObj.cells true 0 [.int .i64 0, .int .i64 0]]) := (Ext.refl H).app _
  generalize (H ++ [AObj.cells true 0 [.int .i64 0, .int .i64 0]] : AHeap) = J at y0 x0
  refine aops_call_to (degreeErr_c _) ?_
  ((repeat (first | refine q1 ?_ | refine q2 ?_ | refine q3 ?_ | refine q4 ?_ | refine q5 ?_ | refine q6 ?_ | refine q7 ?_ | refine q8 ?_ | refine q9 ?_ | refine qa ?_ | refine qb ?_ | refine qc ?_ | refine qd ?_ | refine qe (by decide) ?_ | refine qf ?_ | refine qg ?_ | ((first | apply aops_all | apply adraw_all); (simp (disch := first | exact List.all_nil | omega | (simp only [go_sem]; done) | (simp only [ln, List.length_map]; omega) | (repeat' first | assumption | exact Ext.refl _ | refine Ext.app ?_ _)) only [go_sem]; rfl)))); (try ((first | apply aops_until | apply adraw_until); (simp (disch := first | exact List.all_nil | omega | (simp only [go_sem]; done) | (simp only [ln, List.length_map]; omega) | (repeat' first | assumption | exact Ext.refl _ | refine Ext.app ?_ _)) only [go_sem]; rfl))))
  refine aops_call_to (fractionErr_c _) ?_
  ((repeat (first | refine q1 ?_ | refine q2 ?_ | refine q3 ?_ | refine q4 ?_ | refine q5 ?_ | refine q6 ?_ | refine q7 ?_ | refine q8 ?_ | refine q9 ?_ | refine qa ?_ | refine qb ?_ | refine qc ?_ | refine qd ?_ | refine qe (by decide) ?_ | refine qf ?_ | refine qg ?_ | ((first | apply aops_all | apply adraw_all); (simp (disch := first | exact List.all_nil | omega | (simp only [go_sem]; done) | (simp only [ln, List.length_map]; omega) | (repeat' first | assumption | exact Ext.refl _ | refine Ext.app ?_ _)) only [go_sem]; rfl)))); (try ((first | apply aops_until | apply adraw_until); (simp (disch := first | exact List.all_nil | omega | (simp only [go_sem]; done) | (simp only [ln, List.length_map]; omega) | (repeat' first | assumption | exact Ext.refl _ | refine Ext.app ?_ _)) only [go_sem]; rfl))))
  refine aops_call_to (first_c (l := [_, _]) (Ints.last (l := [_, _]) 2) (by simp)) ?_
  have he : firstErr [degErrL deg, fracErrL f] = wAtErrL deg f := rfl
  rw [he]
  have y1 := at_app (N := [AObj.cells true 1 [.int .i64 (degErrL deg), .int .i64 (fracErrL f)]]) y0
  have x1 := x0.app [AObj.cells true 1 [.int .i64 (degErrL deg), .int .i64 (fracErrL f)]]
  generalize (J ++ [AObj.cells true 1 [.int .i64 (degErrL deg), .int .i64 (fracErrL f)]] : AHeap) = G at y1 x1
  by_cases hz : wAtErrL deg f = 0
  rotate_left 1
  · ((repeat (first | refine q1 ?_ | refine q2 ?_ | refine q3 ?_ | refine q4 ?_ | refine q5 ?_ | refine q6 ?_ | refine q7 ?_ | refine q8 ?_ | refine q9 ?_ | refine qa ?_ | refine qb ?_ | refine qc ?_ | refine qd ?_ | refine qe (by decide) ?_ | refine qf ?_ | refine qg ?_ | ((first | apply aops_all | apply adraw_all); (simp (disch := first | exact List.all_nil | omega | (simp only [go_sem]; done) | (simp only [ln, List.length_map]; omega) | (repeat' first | assumption | exact Ext.refl _ | refine Ext.app ?_ _)) only [go_sem, dec_t (show wAtErrL deg f ≠ 0 from hz)]; rfl)))); (try ((first | apply aops_until | apply adraw_until); (simp (disch := first | exact List.all_nil | omega | (simp only [go_sem]; done) | (simp only [ln, List.length_map]; omega) | (repeat' first | assumption | exact Ext.refl _ | refine Ext.app ?_ _)) only [go_sem, dec_t (show wAtErrL deg f ≠ 0 from hz)]; rfl))))
    refine cond_t rfl ?_
    ((repeat (first | refine q1 ?_ | refine q2 ?_ | refine q3 ?_ | refine q4 ?_ | refine q5 ?_ | refine q6 ?_ | refine q7 ?_ | refine q8 ?_ | refine q9 ?_ | refine qa ?_ | refine qb ?_ | refine qc ?_ | refine qd ?_ | refine qe (by decide) ?_ | refine qf ?_ | refine qg ?_ | ((first | apply aops_all | apply adraw_all); (simp (disch := first | exact List.all_nil | omega | (simp only [go_sem]; done) | (simp only [ln, List.length_map]; omega) | (repeat' first | assumption | exact Ext.refl _ | refine Ext.app ?_ _)) only [go_sem, fill_none, store_b2 (a := 0) (b := 0) y1]; rfl)))); (try ((first | apply aops_until | apply adraw_until); (simp (disch := first | exact List.all_nil | omega | (simp only [go_sem]; done) | (simp only [ln, List.length_map]; omega) | (repeat' first | assumption | exact Ext.refl _ | refine Ext.app ?_ _)) only [go_sem, fill_none, store_b2 (a := 0) (b := 0) y1]; rfl))))
    exact fin_l2f rfl (get_set_self y1) ⟨by unfold remAtL; rw [if_neg hz]; rfl, x1.set (Nat.le_refl _) _⟩
  ((repeat (first | refine q1 ?_ | refine q2 ?_ | refine q3 ?_ | refine q4 ?_ | refine q5 ?_ | refine q6 ?_ | refine q7 ?_ | refine q8 ?_ | refine q9 ?_ | refine qa ?_ | refine qb ?_ | refine qc ?_ | refine qd ?_ | refine qe (by decide) ?_ | refine qf ?_ | refine qg ?_ | ((first | apply aops_all | apply adraw_all); (simp (disch := first | exact List.all_nil | omega | (simp only [go_sem]; done) | (simp only [ln, List.length_map]; omega) | (repeat' first | assumption | exact Ext.refl _ | refine Ext.app ?_ _)) only [go_sem, hz]; rfl)))); (try ((first | apply aops_until | apply adraw_until); (simp (disch := first | exact List.all_nil | omega | (simp only [go_sem]; done) | (simp only [ln, List.length_map]; omega) | (repeat' first | assumption | exact Ext.refl _ | refine Ext.app ?_ _)) only [go_sem, hz]; rfl))))
  refine cond_f rfl ?_
  obtain ⟨hd, hf⟩ := wAtErr_ok hz
  have hx2 := hx.trans x1
  ((repeat (first | refine q1 ?_ | refine q2 ?_ | refine q3 ?_ | refine q4 ?_ | refine q5 ?_ | refine q6 ?_ | refine q8 ?_ | refine q9 ?_ | refine qa ?_ | refine qb ?_ | refine qc ?_ | refine qd ?_ | refine qe (by decide) ?_ | refine qf ?_ | refine qg ?_ | (apply aops_all; (simp (disch := first | exact List.all_nil | omega | (simp only [go_sem]; done) | (simp only [ln, List.length_map]; omega) | (repeat' first | assumption | exact Ext.refl _ | refine Ext.app ?_ _)) only [go_sem, kern_idx hd, kern_load hx2 hd, store_kern]; rfl)))); (try (apply aops_until; (simp (disch := first | exact List.all_nil | omega | (simp only [go_sem]; done) | (simp only [ln, List.length_map]; omega) | (repeat' first | assumption | exact Ext.refl _ | refine Ext.app ?_ _)) only [go_sem, kern_idx hd, kern_load hx2 hd, store_kern]; rfl))))
  have g0 : (G ++ [AObj.cells true 0 (kern deg)])[G.length]? = some (.cells true 0 (kern deg)) := at_new
  have y2 := at_app (N := [AObj.cells true 0 (kern deg)]) y1
  have x2 := x1.app [AObj.cells true 0 (kern deg)]
  generalize (G ++ [AObj.cells true 0 (kern deg)] : AHeap) = G2 at g0 x2 y2
  have pb := kprod_bound hd hf
  have rd := rden_pos (deg := deg)
  ((repeat (first | refine q1 ?_ | refine q2 ?_ | refine q3 ?_ | refine q4 ?_ | refine q5 ?_ | refine q6 ?_ | refine q7 ?_ | refine q8 ?_ | refine q9 ?_ | refine qa ?_ | refine qb ?_ | refine qc ?_ | refine qd ?_ | refine qe (by decide) ?_ | refine qf ?_ | refine qg ?_ | ((first | apply aops_all | apply adraw_all); (simp (disch := first | exact List.all_nil | omega | (simp only [go_sem]; done) | (simp only [ln, List.length_map]; omega) | (repeat' first | assumption | exact Ext.refl _ | refine Ext.app ?_ _)) only [go_sem, kern_p g0]; rfl)))); (try ((first | apply aops_until | apply adraw_until); (simp (disch := first | exact List.all_nil | omega | (simp only [go_sem]; done) | (simp only [ln, List.length_map]; omega) | (repeat' first | assumption | exact Ext.refl _ | refine Ext.app ?_ _)) only [go_sem, kern_p g0]; rfl))))
  refine adraw_call (N := []) (firstD (product_c hd hf)) ?_
  rw [List.append_nil]
  ((repeat (first | refine q1 ?_ | refine q2 ?_ | refine q3 ?_ | refine q4 ?_ | refine q5 ?_ | refine q6 ?_ | refine q7 ?_ | refine q8 ?_ | refine q9 ?_ | refine qa ?_ | refine qb ?_ | refine qc ?_ | refine qd ?_ | refine qe (by decide) ?_ | refine qf ?_ | refine qg ?_ | ((first | apply aops_all | apply adraw_all); (simp (disch := first | exact List.all_nil | omega | (simp only [go_sem]; done) | (simp only [ln, List.length_map]; omega) | (repeat' first | assumption | exact Ext.refl _ | refine Ext.app ?_ _)) only [go_sem, kern_rden g0]; rfl)))); (try ((first | apply aops_until | apply adraw_until); (simp (disch := first | exact List.all_nil | omega | (simp only [go_sem]; done) | (simp only [ln, List.length_map]; omega) | (repeat' first | assumption | exact Ext.refl _ | refine Ext.app ?_ _)) only [go_sem, kern_rden g0]; rfl))))
  refine adraw_call (N := []) (firstD (lowest_c _ _ (by omega) (by omega))) ?_
  rw [List.append_nil]
  ((repeat (first | refine q1 ?_ | refine q2 ?_ | refine q3 ?_ | refine q4 ?_ | refine q5 ?_ | refine q6 ?_ | refine q7 ?_ | refine q8 ?_ | refine q9 ?_ | refine qa ?_ | refine qb ?_ | refine qc ?_ | refine qd ?_ | refine qe (by decide) ?_ | refine qf ?_ | refine qg ?_ | ((first | apply aops_all | apply adraw_all); (simp (disch := first | exact List.all_nil | omega | (simp only [go_sem]; done) | (simp only [ln, List.length_map]; omega) | (repeat' first | assumption | exact Ext.refl _ | refine Ext.app ?_ _)) only [go_sem, store_b2 (a := (lowF (prodL deg f) (rdenL deg)).1) (b := (lowF (prodL deg f) (rdenL deg)).2) y2]; rfl)))); (try ((first | apply aops_until | apply adraw_until); (simp (disch := first | exact List.all_nil | omega | (simp only [go_sem]; done) | (simp only [ln, List.length_map]; omega) | (repeat' first | assumption | exact Ext.refl _ | refine Ext.app ?_ _)) only [go_sem, store_b2 (a := (lowF (prodL deg f) (rdenL deg)).1) (b := (lowF (prodL deg f) (rdenL deg)).2) y2]; rfl))))
  exact fin_l2f rfl (get_set_self y2) ⟨by unfold remAtL; rw [if_pos hz, hz]; rfl, x2.set (Nat.le_refl _) _⟩

theorem maximumRemainder_c {deg : Int} (hx : Ext H0 H) : ACall Go.Proofs.Tryd.prog 64 [.int .i64 deg] H fun v H' =>
    v = .tuple #[fracV (maxRemAtL deg), .int .i64 (degErrL deg)] ∧ H' = H := by
  refine ACall.drop (closed_frac1 _ _) ?_
  (refine a64 ?_; simp only [n64, List.replicate, List.length_cons, List.length_nil, List.cons_append, List.nil_append])
  ((repeat (first | refine q1 ?_ | refine q2 ?_ | refine q3 ?_ | refine q4 ?_ | refine q5 ?_ | refine q6 ?_ | refine q7 ?_ | refine q8 ?_ | refine q9 ?_ | refine qa ?_ | refine qb ?_ | refine qc ?_ | refine qd ?_ | refine qe (by decide) ?_ | refine qf ?_ | refine qg ?_ | ((first | apply aops_all | apply adraw_all); (simp (disch := first | exact List.all_nil | omega | (simp only [go_sem]; done) | (simp only [ln, List.length_map]; omega) | (repeat' first | assumption | exact Ext.refl _ | refine Ext.app ?_ _)) only [go_sem]; rfl)))); (try ((first | apply aops_until | apply adraw_until); (simp (disch := first | exact List.all_nil | omega | (simp only [go_sem]; done) | (simp only [ln, List.length_map]; omega) | (repeat' first | assumption | exact Ext.refl _ | refine Ext.app ?_ _)) only [go_sem]; rfl))))
  have y1 : (H ++ [AObj.cells true 0 [.int .i64 0, .int .i64 0]])[H.length]? = some (.cells true 0 [.int .i64 0, .int .i64 0]) := at_new
  have x1 : Ext H (H ++ [AObj.cells true 0 [.int .i64 0, .int .i64 0]]) := (Ext.refl H).app _
  generalize (H ++ [AObj.cells true 0 [.int .i64 0, .int .i64 0]] : AHeap) = G at y1 x1
  refine aops_call_to (degreeErr_c _) ?_
  by_cases hz : degErrL deg = 0
  rotate_left 1
  · ((repeat (first | refine q1 ?_ | refine q2 ?_ | refine q3 ?_ | refine q4 ?_ | refine q5 ?_ | refine q6 ?_ | refine q7 ?_ | refine q8 ?_ | refine q9 ?_ | refine qa ?_ | refine qb ?_ | refine qc ?_ | refine qd ?_ | refine qe (by decide) ?_ | refine qf ?_ | refine qg ?_ | ((first | apply aops_all | apply adraw_all); (simp (disch := first | exact List.all_nil | omega | (simp only [go_sem]; done) | (simp only [ln, List.length_map]; omega) | (repeat' first | assumption | exact Ext.refl _ | refine Ext.app ?_ _)) only [go_sem, dec_t (show degErrL deg ≠ 0 from hz)]; rfl)))); (try ((first | apply aops_until | apply adraw_until); (simp (disch := first | exact List.all_nil | omega | (simp only [go_sem]; done) | (simp only [ln, List.length_map]; omega) | (repeat' first | assumption | exact Ext.refl _ | refine Ext.app ?_ _)) only [go_sem, dec_t (show degErrL deg ≠ 0 from hz)]; rfl))))
    refine cond_t rfl ?_
    ((repeat (first | refine q1 ?_ | refine q2 ?_ | refine q3 ?_ | refine q4 ?_ | refine q5 ?_ | refine q6 ?_ | refine q7 ?_ | refine q8 ?_ | refine q9 ?_ | refine qa ?_ | refine qb ?_ | refine qc ?_ | refine qd ?_ | refine qe (by decide) ?_ | refine qf ?_ | refine qg ?_ | ((first | apply aops_all | apply adraw_all); (simp (disch := first | exact List.all_nil | omega | (simp only [go_sem]; done) | (simp only [ln, List.length_map]; omega) | (repeat' first | assumption | exact Ext.refl _ | refine Ext.app ?_ _)) only [go_sem, fill_none, store_b2 (a := 0) (b := 0) y1]; rfl)))); (try ((first | apply aops_until | apply adraw_until); (simp (disch := first | exact List.all_nil | omega | (simp only [go_sem]; done) | (simp only [ln, List.length_map]; omega) | (repeat' first | assumption | exact Ext.refl _ | refine Ext.app ?_ _)) only [go_sem, fill_none, store_b2 (a := 0) (b := 0) y1]; rfl))))
    exact fin_l2f rfl (get_set_self y1) ⟨by unfold maxRemAtL; rw [if_neg hz]; rfl, x1.set (Nat.le_refl _) _⟩
  ((repeat (first | refine q1 ?_ | refine q2 ?_ | refine q3 ?_ | refine q4 ?_ | refine q5 ?_ | refine q6 ?_ | refine q7 ?_ | refine q8 ?_ | refine q9 ?_ | refine qa ?_ | refine qb ?_ | refine qc ?_ | refine qd ?_ | refine qe (by decide) ?_ | refine qf ?_ | refine qg ?_ | ((first | apply aops_all | apply adraw_all); (simp (disch := first | exact List.all_nil | omega | (simp only [go_sem]; done) | (simp only [ln, List.length_map]; omega) | (repeat' first | assumption | exact Ext.refl _ | refine Ext.app ?_ _)) only [go_sem, hz]; rfl)))); (try ((first | apply aops_until | apply adraw_until); (simp (disch := first | exact List.all_nil | omega | (simp only [go_sem]; done) | (simp only [ln, List.length_map]; omega) | (repeat' first | assumption | exact Ext.refl _ | refine Ext.app ?_ _)) only [go_sem, hz]; rfl))))
  refine cond_f rfl ?_
  have hd := degErr_ok hz
  have hx2 := hx.trans x1
  ((repeat (first | refine q1 ?_ | refine q2 ?_ | refine q3 ?_ | refine q4 ?_ | refine q5 ?_ | refine q6 ?_ | refine q8 ?_ | refine q9 ?_ | refine qa ?_ | refine qb ?_ | refine qc ?_ | refine qd ?_ | refine qe (by decide) ?_ | refine qf ?_ | refine qg ?_ | (apply aops_all; (simp (disch := first | exact List.all_nil | omega | (simp only [go_sem]; done) | (simp only [ln, List.length_map]; omega) | (repeat' first | assumption | exact Ext.refl _ | refine Ext.app ?_ _)) only [go_sem, kern_idx hd, kern_load hx2 hd, store_kern]; rfl)))); (try (apply aops_until; (simp (disch := first | exact List.all_nil | omega | (simp only [go_sem]; done) | (simp only [ln, List.length_map]; omega) | (repeat' first | assumption | exact Ext.refl _ | refine Ext.app ?_ _)) only [go_sem, kern_idx hd, kern_load hx2 hd, store_kern]; rfl))))
  have g0 : (G ++ [AObj.cells true 0 (kern deg)])[G.length]? = some (.cells true 0 (kern deg)) := at_new
  have y2 := at_app (N := [AObj.cells true 0 (kern deg)]) y1
  have x2 := x1.app [AObj.cells true 0 (kern deg)]
  generalize (G ++ [AObj.cells true 0 (kern deg)] : AHeap) = G2 at g0 x2 y2
  have rd := rden_pos (deg := deg)
  ((repeat (first | refine q1 ?_ | refine q2 ?_ | refine q3 ?_ | refine q4 ?_ | refine q5 ?_ | refine q6 ?_ | refine q7 ?_ | refine q8 ?_ | refine q9 ?_ | refine qa ?_ | refine qb ?_ | refine qc ?_ | refine qd ?_ | refine qe (by decide) ?_ | refine qf ?_ | refine qg ?_ | ((first | apply aops_all | apply adraw_all); (simp (disch := first | exact List.all_nil | omega | (simp only [go_sem]; done) | (simp only [ln, List.length_map]; omega) | (repeat' first | assumption | exact Ext.refl _ | refine Ext.app ?_ _)) only [go_sem]; rfl)))); (try ((first | apply aops_until | apply adraw_until); (simp (disch := first | exact List.all_nil | omega | (simp only [go_sem]; done) | (simp only [ln, List.length_map]; omega) | (repeat' first | assumption | exact Ext.refl _ | refine Ext.app ?_ _)) only [go_sem]; rfl))))
  refine awp_loop_n [false, false, true, true, false, true, true, false, false, false, false, false, false, false, false, false, false, false, true, false, false, false, false, false, false, false, false, false, false, false, false, false, false, false, false] 64 (fun i e H' => H' = G2 ∧ e = [junk, junk, .pointer (some ⟨H.length, 0, none⟩), .int .i64 0, junk, .pointer (some ⟨G.length, 0, none⟩), .int .i64 (maxTo deg i), junk, junk, junk, junk, junk, junk, junk, junk, junk, junk, junk, .int .i64 i, junk, junk, junk, junk, junk, junk, junk, junk, junk, junk, junk, junk, junk, junk, junk, junk]) ?_ ?_
  · exact ⟨rfl, by simp [forget, maxTo]⟩
  rintro i e H' hi ⟨rfl, rfl⟩
  have mb := maxTo_bound hd i hi
  ((repeat (first | refine q1 ?_ | refine q2 ?_ | refine q3 ?_ | refine q4 ?_ | refine q5 ?_ | refine q6 ?_ | refine q7 ?_ | refine q8 ?_ | refine q9 ?_ | refine qa ?_ | refine qb ?_ | refine qc ?_ | refine qd ?_ | refine qe (by decide) ?_ | refine qf ?_ | refine qg ?_ | ((first | apply aops_all | apply adraw_all); (simp (disch := first | exact List.all_nil | omega | (simp only [go_sem]; done) | (simp only [ln, List.length_map]; omega) | (repeat' first | assumption | exact Ext.refl _ | refine Ext.app ?_ _)) only [go_sem]; rfl)))); (try ((first | apply aops_until | apply adraw_until); (simp (disch := first | exact List.all_nil | omega | (simp only [go_sem]; done) | (simp only [ln, List.length_map]; omega) | (repeat' first | assumption | exact Ext.refl _ | refine Ext.app ?_ _)) only [go_sem]; rfl))))
  refine cond_p rfl (fun hlt => ?_) (fun hge => ?_)
  · have hf : 0 ≤ (i : Int) ∧ (i : Int) ≤ 63 := by omega
    have pb := kprod_bound hd hf
    ((repeat (first | refine q1 ?_ | refine q2 ?_ | refine q3 ?_ | refine q4 ?_ | refine q5 ?_ | refine q6 ?_ | refine q7 ?_ | refine q8 ?_ | refine q9 ?_ | refine qa ?_ | refine qb ?_ | refine qc ?_ | refine qd ?_ | refine qe (by decide) ?_ | refine qf ?_ | refine qg ?_ | ((first | apply aops_all | apply adraw_all); (simp (disch := first | exact List.all_nil | omega | (simp only [go_sem]; done) | (simp only [ln, List.length_map]; omega) | (repeat' first | assumption | exact Ext.refl _ | refine Ext.app ?_ _)) only [go_sem, kern_p g0]; rfl)))); (try ((first | apply aops_until | apply adraw_until); (simp (disch := first | exact List.all_nil | omega | (simp only [go_sem]; done) | (simp only [ln, List.length_map]; omega) | (repeat' first | assumption | exact Ext.refl _ | refine Ext.app ?_ _)) only [go_sem, kern_p g0]; rfl))))
    refine aops_call_to (product_c hd hf) ?_
    ((repeat (first | refine q1 ?_ | refine q2 ?_ | refine q3 ?_ | refine q4 ?_ | refine q5 ?_ | refine q6 ?_ | refine q7 ?_ | refine q8 ?_ | refine q9 ?_ | refine qa ?_ | refine qb ?_ | refine qc ?_ | refine qd ?_ | refine qe (by decide) ?_ | refine qf ?_ | refine qg ?_ | ((first | apply aops_all | apply adraw_all); (simp (disch := first | exact List.all_nil | omega | (simp only [go_sem]; done) | (simp only [ln, List.length_map]; omega) | (repeat' first | assumption | exact Ext.refl _ | refine Ext.app ?_ _)) only [go_sem]; rfl)))); (try ((first | apply aops_until | apply adraw_until); (simp (disch := first | exact List.all_nil | omega | (simp only [go_sem]; done) | (simp only [ln, List.length_map]; omega) | (repeat' first | assumption | exact Ext.refl _ | refine Ext.app ?_ _)) only [go_sem]; rfl))))
    exact ⟨by omega, rfl, by simp [forget, maxTo]⟩
  · obtain rfl : i = 64 := by omega
    ((repeat (first | refine q1 ?_ | refine q2 ?_ | refine q3 ?_ | refine q4 ?_ | refine q5 ?_ | refine q6 ?_ | refine q7 ?_ | refine q8 ?_ | refine q9 ?_ | refine qa ?_ | refine qb ?_ | refine qc ?_ | refine qd ?_ | refine qe (by decide) ?_ | refine qf ?_ | refine qg ?_ | ((first | apply aops_all | apply adraw_all); (simp (disch := first | exact List.all_nil | omega | (simp only [go_sem]; done) | (simp only [ln, List.length_map]; omega) | (repeat' first | assumption | exact Ext.refl _ | refine Ext.app ?_ _)) only [go_sem, kern_rden g0]; rfl)))); (try ((first | apply aops_until | apply adraw_until); (simp (disch := first | exact List.all_nil | omega | (simp only [go_sem]; done) | (simp only [ln, List.length_map]; omega) | (repeat' first | assumption | exact Ext.refl _ | refine Ext.app ?_ _)) only [go_sem, kern_rden g0]; rfl))))
    refine aops_call_to (lowest_c _ _ (by omega) (by omega)) ?_
    ((repeat (first | refine q1 ?_ | refine q2 ?_ | refine q3 ?_ | refine q4 ?_ | refine q5 ?_ | refine q6 ?_ | refine q7 ?_ | refine q8 ?_ | refine q9 ?_ | refine qa ?_ | refine qb ?_ | refine qc ?_ | refine qd ?_ | refine qe (by decide) ?_ | refine qf ?_ | refine qg ?_ | ((first | apply aops_all | apply adraw_all); (simp (disch := first | exact List.all_nil | omega | (simp only [go_sem]; done) | (simp only [ln, List.length_map]; omega) | (repeat' first | assumption | exact Ext.refl _ | refine Ext.app ?_ _)) only [go_sem, store_b2 (a := (lowF (maxTo deg 64) (rdenL deg)).1) (b := (lowF (maxTo deg 64) (rdenL deg)).2) y2]; rfl)))); (try ((first | apply aops_until | apply adraw_until); (simp (disch := first | exact List.all_nil | omega | (simp only [go_sem]; done) | (simp only [ln, List.length_map]; omega) | (repeat' first | assumption | exact Ext.refl _ | refine Ext.app ?_ _)) only [go_sem, store_b2 (a := (lowF (maxTo deg 64) (rdenL deg)).1) (b := (lowF (maxTo deg 64) (rdenL deg)).2) y2]; rfl))))
    exact fin_l2f rfl (get_set_self y2) ⟨by unfold maxRemAtL; rw [if_pos hz, hz]; rfl, x2.set (Nat.le_refl _) _⟩

theorem refRemainder_c {deg f : Int} (hd : deg = 1 ∨ deg = 3) (h : 0 ≤ f ∧ f ≤ 63) : ACall Go.Proofs.Tryd.prog 70 [.int .i64 deg, .int .i64 f] H fun v H' => v = fracV (remL deg f) ∧ H' = H := by
  have m1 := mul_abs (x := f) (y := f - 64) (a := 63) (b := 64) ⟨by omega, by omega⟩ ⟨by omega, by omega⟩
  have m7 := mul_abs (x := f + 64) (y := f) (a := 127) (b := 63) ⟨by omega, by omega⟩ ⟨by omega, by omega⟩
  have m8 := mul_abs (x := (f + 64) * f) (y := f - 64) (a := 8001) (b := 64) ⟨by omega, by omega⟩ ⟨by omega, by omega⟩
  have m9 := mul_abs (x := (f + 64) * f * (f - 64)) (y := f - 128) (a := 512064) (b := 128) ⟨by omega, by omega⟩ ⟨by omega, by omega⟩
  refine ACall.drop (closed_frac _) ?_
  (refine a70 ?_; simp only [n70, List.replicate, List.length_cons, List.length_nil, List.cons_append, List.nil_append])
  ((repeat (first | refine q1 ?_ | refine q2 ?_ | refine q3 ?_ | refine q4 ?_ | refine q5 ?_ | refine q6 ?_ | refine q7 ?_ | refine q8 ?_ | refine q9 ?_ | refine qa ?_ | refine qb ?_ | refine qc ?_ | refine qd ?_ | refine qe (by decide) ?_ | refine qf ?_ | refine qg ?_ | ((first | apply aops_all | apply adraw_all); (simp (disch := first | exact List.all_nil | omega | (simp only [go_sem]; done) | (simp only [ln, List.length_map]; omega) | (repeat' first | assumption | exact Ext.refl _ | refine Ext.app ?_ _)) only [go_sem]; rfl)))); (try ((first | apply aops_until | apply adraw_until); (simp (disch := first | exact List.all_nil | omega | (simp only [go_sem]; done) | (simp only [ln, List.length_map]; omega) | (repeat' first | assumption | exact Ext.refl _ | refine Ext.app ?_ _)) only [go_sem]; rfl))))
  have y1 : (H ++ [AObj.cells true 0 [.int .i64 0, .int .i64 0]])[H.length]? = some (.cells true 0 [.int .i64 0, .int .i64 0]) := at_new
  have x1 : Ext H (H ++ [AObj.cells true 0 [.int .i64 0, .int .i64 0]]) := (Ext.refl H).app _
  generalize (H ++ [AObj.cells true 0 [.int .i64 0, .int .i64 0]] : AHeap) = G at y1 x1
  rcases hd with rfl | rfl
  · refine cond_t rfl ?_
    ((repeat (first | refine q1 ?_ | refine q2 ?_ | refine q3 ?_ | refine q4 ?_ | refine q5 ?_ | refine q6 ?_ | refine q7 ?_ | refine q8 ?_ | refine q9 ?_ | refine qa ?_ | refine qb ?_ | refine qc ?_ | refine qd ?_ | refine qe (by decide) ?_ | refine qf ?_ | refine qg ?_ | ((first | apply aops_all | apply adraw_all); (simp (disch := first | exact List.all_nil | omega | (simp only [go_sem]; done) | (simp only [ln, List.length_map]; omega) | (repeat' first | assumption | exact Ext.refl _ | refine Ext.app ?_ _)) only [go_sem]; rfl)))); (try ((first | apply aops_until | apply adraw_until); (simp (disch := first | exact List.all_nil | omega | (simp only [go_sem]; done) | (simp only [ln, List.length_map]; omega) | (repeat' first | assumption | exact Ext.refl _ | refine Ext.app ?_ _)) only [go_sem]; rfl))))
    refine aops_call_to (blowest_c _ _ (by omega) (by omega)) ?_
    ((repeat (first | refine q1 ?_ | refine q2 ?_ | refine q3 ?_ | refine q4 ?_ | refine q5 ?_ | refine q6 ?_ | refine q7 ?_ | refine q8 ?_ | refine q9 ?_ | refine qa ?_ | refine qb ?_ | refine qc ?_ | refine qd ?_ | refine qe (by decide) ?_ | refine qf ?_ | refine qg ?_ | ((first | apply aops_all | apply adraw_all); (simp (disch := first | exact List.all_nil | omega | (simp only [go_sem]; done) | (simp only [ln, List.length_map]; omega) | (repeat' first | assumption | exact Ext.refl _ | refine Ext.app ?_ _)) only [go_sem, store_b2 (a := (lowF (f * (f - 64)) 8192).1) (b := (lowF (f * (f - 64)) 8192).2) y1]; rfl)))); (try ((first | apply aops_until | apply adraw_until); (simp (disch := first | exact List.all_nil | omega | (simp only [go_sem]; done) | (simp only [ln, List.length_map]; omega) | (repeat' first | assumption | exact Ext.refl _ | refine Ext.app ?_ _)) only [go_sem, store_b2 (a := (lowF (f * (f - 64)) 8192).1) (b := (lowF (f * (f - 64)) 8192).2) y1]; rfl))))
    refine fin_l1 (u := fracV (lowF (f * (f - 64)) 8192)) ?_ ?_
    · exact loadN_at (get_set_self y1) (by simp)
    · exact ⟨rfl, x1.set (Nat.le_refl _) _⟩
  · refine cond_f rfl ?_
    ((repeat (first | refine q1 ?_ | refine q2 ?_ | refine q3 ?_ | refine q4 ?_ | refine q5 ?_ | refine q6 ?_ | refine q7 ?_ | refine q8 ?_ | refine q9 ?_ | refine qa ?_ | refine qb ?_ | refine qc ?_ | refine qd ?_ | refine qe (by decide) ?_ | refine qf ?_ | refine qg ?_ | ((first | apply aops_all | apply adraw_all); (simp (disch := first | exact List.all_nil | omega | (simp only [go_sem]; done) | (simp only [ln, List.length_map]; omega) | (repeat' first | assumption | exact Ext.refl _ | refine Ext.app ?_ _)) only [go_sem]; rfl)))); (try ((first | apply aops_until | apply adraw_until); (simp (disch := first | exact List.all_nil | omega | (simp only [go_sem]; done) | (simp only [ln, List.length_map]; omega) | (repeat' first | assumption | exact Ext.refl _ | refine Ext.app ?_ _)) only [go_sem]; rfl))))
    refine aops_call_to (blowest_c _ _ (by omega) (by omega)) ?_
    ((repeat (first | refine q1 ?_ | refine q2 ?_ | refine q3 ?_ | refine q4 ?_ | refine q5 ?_ | refine q6 ?_ | refine q7 ?_ | refine q8 ?_ | refine q9 ?_ | refine qa ?_ | refine qb ?_ | refine qc ?_ | refine qd ?_ | refine qe (by decide) ?_ | refine qf ?_ | refine qg ?_ | ((first | apply aops_all | apply adraw_all); (simp (disch := first | exact List.all_nil | omega | (simp only [go_sem]; done) | (simp only [ln, List.length_map]; omega) | (repeat' first | assumption | exact Ext.refl _ | refine Ext.app ?_ _)) only [go_sem, store_b2 (a := (lowF ((f + 64) * f * (f - 64) * (f - 128)) 402653184).1) (b := (lowF ((f + 64) * f * (f - 64) * (f - 128)) 402653184).2) y1]; rfl)))); (try ((first | apply aops_until | apply adraw_until); (simp (disch := first | exact List.all_nil | omega | (simp only [go_sem]; done) | (simp only [ln, List.length_map]; omega) | (repeat' first | assumption | exact Ext.refl _ | refine Ext.app ?_ _)) only [go_sem, store_b2 (a := (lowF ((f + 64) * f * (f - 64) * (f - 128)) 402653184).1) (b := (lowF ((f + 64) * f * (f - 64) * (f - 128)) 402653184).2) y1]; rfl))))
    refine fin_l1 (u := fracV (lowF ((f + 64) * f * (f - 64) * (f - 128)) 402653184)) ?_ ?_
    · exact loadN_at (get_set_self y1) (by simp)
    · exact ⟨rfl, x1.set (Nat.le_refl _) _⟩
theorem whole_c (n : Int) : ACall Go.Proofs.Tryd.prog 123 [.int .i64 n] H fun v H' => v = fracV (n, 1) ∧ H' = H := by
  refine ACall.drop (closed_frac _) ?_
  (refine a123 ?_; simp only [n123, List.replicate, List.length_cons, List.length_nil, List.cons_append, List.nil_append])
  ((repeat (first | refine q1 ?_ | refine q2 ?_ | refine q3 ?_ | refine q4 ?_ | refine q5 ?_ | refine q6 ?_ | refine q7 ?_ | refine q8 ?_ | refine q9 ?_ | refine qa ?_ | refine qb ?_ | refine qc ?_ | refine qd ?_ | refine qe (by decide) ?_ | refine qf ?_ | refine qg ?_ | ((first | apply aops_all | apply adraw_all); (simp (disch := first | exact List.all_nil | omega | (simp only [go_sem]; done) | (simp only [ln, List.length_map]; omega) | (repeat' first | assumption | exact Ext.refl _ | refine Ext.app ?_ _)) only [go_sem, fill2i]; rfl)))); (try ((first | apply aops_until | apply adraw_until); (simp (disch := first | exact List.all_nil | omega | (simp only [go_sem]; done) | (simp only [ln, List.length_map]; omega) | (repeat' first | assumption | exact Ext.refl _ | refine Ext.app ?_ _)) only [go_sem, fill2i]; rfl))))
  refine fin_l1 (u := fracV (n, 1)) ?_ ?_
  · exact loadN_at at_new (by simp)
  · exact ⟨rfl, (Ext.refl _).app _⟩
theorem cmp_c {a b : Int × Int} (ha : -100000000 ≤ a.1 ∧ a.1 ≤ 100000000) (hb : -100000000 ≤ b.1 ∧ b.1 ≤ 100000000) (ha2 : 0 ≤ a.2 ∧ a.2 ≤ 402653184) (hb2 : 0 ≤ b.2 ∧ b.2 ≤ 402653184) :
    ACall Go.Proofs.Tryd.prog 124 [fracV a, fracV b] H fun v H' => v = .int .i64 (cmpF a b) ∧ H' = H := by
  obtain ⟨n, d⟩ := a
  obtain ⟨m, k⟩ := b
  dsimp only at ha hb ha2 hb2
  have m1 := mul_abs (x := n) (y := k) (a := 100000000) (b := 402653184) ⟨by omega, by omega⟩ ⟨by omega, by omega⟩
  have m2 := mul_abs (x := m) (y := d) (a := 100000000) (b := 402653184) ⟨by omega, by omega⟩ ⟨by omega, by omega⟩
  refine ACall.drop (.int _ _) ?_
  (refine a124 ?_; simp only [n124, List.replicate, List.length_cons, List.length_nil, List.cons_append, List.nil_append])
  obtain ⟨G, hG⟩ : ∃ G, G = H ++ [AObj.cells true 0 [.int .i64 n, .int .i64 d]] ++ [AObj.cells true 0 [.int .i64 m, .int .i64 k]] := ⟨_, rfl⟩
  have g0 : G[H.length]? = some (.cells true 0 [.int .i64 n, .int .i64 d]) := by rw [hG]; exact at_app at_new
  have g1 : G[H.length + 1]? = some (.cells true 0 [.int .i64 m, .int .i64 k]) := by rw [hG]; simp
  have xG : Ext H G := by rw [hG]; exact ((Ext.refl H).app _).app _
  ((repeat (first | refine q1 ?_ | refine q2 ?_ | refine q3 ?_ | refine q4 ?_ | refine q5 ?_ | refine q6 ?_ | refine q8 ?_ | refine q9 ?_ | refine qa ?_ | refine qb ?_ | refine qc ?_ | refine qd ?_ | refine qe (by decide) ?_ | refine qf ?_ | refine qg ?_ | (apply aops_all; (simp (disch := first | exact List.all_nil | omega | (simp only [go_sem]; done) | (simp only [ln, List.length_map]; omega) | (repeat' first | assumption | exact Ext.refl _ | refine Ext.app ?_ _)) only [go_sem]; rfl)))); (try (apply aops_until; (simp (disch := first | exact List.all_nil | omega | (simp only [go_sem]; done) | (simp only [ln, List.length_map]; omega) | (repeat' first | assumption | exact Ext.refl _ | refine Ext.app ?_ _)) only [go_sem]; rfl))))
  (simp only [List.length_append, List.length_cons, List.length_nil, Nat.zero_add, Nat.add_assoc, Nat.reduceAdd])
  rw [← hG]
  clear hG
  ((repeat (first | refine q1 ?_ | refine q2 ?_ | refine q3 ?_ | refine q4 ?_ | refine q5 ?_ | refine q6 ?_ | refine q7 ?_ | refine q8 ?_ | refine q9 ?_ | refine qa ?_ | refine qb ?_ | refine qc ?_ | refine qd ?_ | refine qe (by decide) ?_ | refine qf ?_ | refine qg ?_ | ((first | apply aops_all | apply adraw_all); (simp (disch := first | exact List.all_nil | omega | (simp only [go_sem]; done) | (simp only [ln, List.length_map]; omega) | (repeat' first | assumption | exact Ext.refl _ | refine Ext.app ?_ _)) only [go_sem, load_at g0, load_at g1]; rfl)))); (try ((first | apply aops_until | apply adraw_until); (simp (disch := first | exact List.all_nil | omega | (simp only [go_sem]; done) | (simp only [ln, List.length_map]; omega) | (repeat' first | assumption | exact Ext.refl _ | refine Ext.app ?_ _)) only [go_sem, load_at g0, load_at g1]; rfl))))
  refine cond_p rfl (fun h1 => ?_) (fun h1 => ?_)
  · ((repeat (first | refine q1 ?_ | refine q2 ?_ | refine q3 ?_ | refine q4 ?_ | refine q5 ?_ | refine q6 ?_ | refine q7 ?_ | refine q8 ?_ | refine q9 ?_ | refine qa ?_ | refine qb ?_ | refine qc ?_ | refine qd ?_ | refine qe (by decide) ?_ | refine qf ?_ | refine qg ?_ | ((first | apply aops_all | apply adraw_all); (simp (disch := first | exact List.all_nil | omega | (simp only [go_sem]; done) | (simp only [ln, List.length_map]; omega) | (repeat' first | assumption | exact Ext.refl _ | refine Ext.app ?_ _)) only [go_sem]; rfl)))); (try ((first | apply aops_until | apply adraw_until); (simp (disch := first | exact List.all_nil | omega | (simp only [go_sem]; done) | (simp only [ln, List.length_map]; omega) | (repeat' first | assumption | exact Ext.refl _ | refine Ext.app ?_ _)) only [go_sem]; rfl))))
    exact fin_1 ⟨by unfold cmpF; rw [if_pos h1]; rfl, xG⟩
  ((repeat (first | refine q1 ?_ | refine q2 ?_ | refine q3 ?_ | refine q4 ?_ | refine q5 ?_ | refine q6 ?_ | refine q7 ?_ | refine q8 ?_ | refine q9 ?_ | refine qa ?_ | refine qb ?_ | refine qc ?_ | refine qd ?_ | refine qe (by decide) ?_ | refine qf ?_ | refine qg ?_ | ((first | apply aops_all | apply adraw_all); (simp (disch := first | exact List.all_nil | omega | (simp only [go_sem]; done) | (simp only [ln, List.length_map]; omega) | (repeat' first | assumption | exact Ext.refl _ | refine Ext.app ?_ _)) only [go_sem]; rfl)))); (try ((first | apply aops_until | apply adraw_until); (simp (disch := first | exact List.all_nil | omega | (simp only [go_sem]; done) | (simp only [ln, List.length_map]; omega) | (repeat' first | assumption | exact Ext.refl _ | refine Ext.app ?_ _)) only [go_sem]; rfl))))
  refine cond_p rfl (fun h2 => ?_) (fun h2 => ?_)
  · ((repeat (first | refine q1 ?_ | refine q2 ?_ | refine q3 ?_ | refine q4 ?_ | refine q5 ?_ | refine q6 ?_ | refine q7 ?_ | refine q8 ?_ | refine q9 ?_ | refine qa ?_ | refine qb ?_ | refine qc ?_ | refine qd ?_ | refine qe (by decide) ?_ | refine qf ?_ | refine qg ?_ | ((first | apply aops_all | apply adraw_all); (simp (disch := first | exact List.all_nil | omega | (simp only [go_sem]; done) | (simp only [ln, List.length_map]; omega) | (repeat' first | assumption | exact Ext.refl _ | refine Ext.app ?_ _)) only [go_sem]; rfl)))); (try ((first | apply aops_until | apply adraw_until); (simp (disch := first | exact List.all_nil | omega | (simp only [go_sem]; done) | (simp only [ln, List.length_map]; omega) | (repeat' first | assumption | exact Ext.refl _ | refine Ext.app ?_ _)) only [go_sem]; rfl))))
    exact fin_1 ⟨by unfold cmpF; rw [if_neg h1, if_pos h2]; rfl, xG⟩
  · ((repeat (first | refine q1 ?_ | refine q2 ?_ | refine q3 ?_ | refine q4 ?_ | refine q5 ?_ | refine q6 ?_ | refine q7 ?_ | refine q8 ?_ | refine q9 ?_ | refine qa ?_ | refine qb ?_ | refine qc ?_ | refine qd ?_ | refine qe (by decide) ?_ | refine qf ?_ | refine qg ?_ | ((first | apply aops_all | apply adraw_all); (simp (disch := first | exact List.all_nil | omega | (simp only [go_sem]; done) | (simp only [ln, List.length_map]; omega) | (repeat' first | assumption | exact Ext.refl _ | refine Ext.app ?_ _)) only [go_sem]; rfl)))); (try ((first | apply aops_until | apply adraw_until); (simp (disch := first | exact List.all_nil | omega | (simp only [go_sem]; done) | (simp only [ln, List.length_map]; omega) | (repeat' first | assumption | exact Ext.refl _ | refine Ext.app ?_ _)) only [go_sem]; rfl))))
    exact fin_1 ⟨by unfold cmpF; rw [if_neg h1, if_neg h2]; rfl, xG⟩

theorem refMaximumRemainder_c {deg : Int} (hd : deg = 1 ∨ deg = 3) : ACall Go.Proofs.Tryd.prog 69 [.int .i64 deg] H fun v H' => v = fracV (maxRemL deg) ∧ H' = H := by
  refine ACall.drop (closed_frac _) ?_
  have rd := rden_pos (deg := deg)
  (refine a69 ?_; simp only [n69, List.replicate, List.length_cons, List.length_nil, List.cons_append, List.nil_append])
  ((repeat (first | refine q1 ?_ | refine q2 ?_ | refine q3 ?_ | refine q4 ?_ | refine q5 ?_ | refine q6 ?_ | refine q7 ?_ | refine q8 ?_ | refine q9 ?_ | refine qa ?_ | refine qb ?_ | refine qc ?_ | refine qd ?_ | refine qe (by decide) ?_ | refine qf ?_ | refine qg ?_ | ((first | apply aops_all | apply adraw_all); (simp (disch := first | exact List.all_nil | omega | (simp only [go_sem]; done) | (simp only [ln, List.length_map]; omega) | (repeat' first | assumption | exact Ext.refl _ | refine Ext.app ?_ _)) only [go_sem]; rfl)))); (try ((first | apply aops_until | apply adraw_until); (simp (disch := first | exact List.all_nil | omega | (simp only [go_sem]; done) | (simp only [ln, List.length_map]; omega) | (repeat' first | assumption | exact Ext.refl _ | refine Ext.app ?_ _)) only [go_sem]; rfl))))
  have y1 : (H ++ [AObj.cells true 0 [.int .i64 0, .int .i64 0]])[H.length]? = some (.cells true 0 [.int .i64 0, .int .i64 0]) := at_new
  have x1 : Ext H (H ++ [AObj.cells true 0 [.int .i64 0, .int .i64 0]]) := (Ext.refl H).app _
  have l1 : (H ++ [AObj.cells true 0 [.int .i64 0, .int .i64 0]]).length = H.length + 1 := by simp
  generalize (H ++ [AObj.cells true 0 [.int .i64 0, .int .i64 0]] : AHeap) = G at y1 x1 l1
  refine aops_call_to (whole_c _) ?_
  ((repeat (first | refine q1 ?_ | refine q2 ?_ | refine q3 ?_ | refine q4 ?_ | refine q5 ?_ | refine q6 ?_ | refine q7 ?_ | refine q8 ?_ | refine q9 ?_ | refine qa ?_ | refine qb ?_ | refine qc ?_ | refine qd ?_ | refine qe (by decide) ?_ | refine qf ?_ | refine qg ?_ | ((first | apply aops_all | apply adraw_all); (simp (disch := first | exact List.all_nil | omega | (simp only [go_sem]; done) | (simp only [ln, List.length_map]; omega) | (repeat' first | assumption | exact Ext.refl _ | refine Ext.app ?_ _)) only [go_sem]; rfl)))); (try ((first | apply aops_until | apply adraw_until); (simp (disch := first | exact List.all_nil | omega | (simp only [go_sem]; done) | (simp only [ln, List.length_map]; omega) | (repeat' first | assumption | exact Ext.refl _ | refine Ext.app ?_ _)) only [go_sem]; rfl))))
  refine awp_loop_n [true, false, true, true, true, false, false, false, false, false, false, false, false, false, false, false, false, false, false, false, false, false, false, false] 64 (fun i e H' => e = [.int .i64 deg, junk, .pointer (some ⟨H.length, 0, none⟩), .pointer (some ⟨G.length, 0, none⟩), .int .i64 i, junk, junk, junk, junk, junk, junk, junk, junk, junk, junk, junk, junk, junk, junk, junk, junk, junk, junk, junk] ∧ Ext (G ++ [AObj.cells true 0 [.int .i64 (lowF (maxTo deg i) (rdenL deg)).1, .int .i64 (lowF (maxTo deg i) (rdenL deg)).2]]) H') ?_ ?_
  · refine ⟨rfl, ?_⟩
    rw [show maxTo deg 0 = 0 from rfl, lowF_zero rd.1]
    exact Ext.refl _
  rintro i e H1 hi ⟨rfl, hE⟩
  have mb := maxTo_bound hd i hi
  have b1 := lowF_bound (n := maxTo deg i) (d := rdenL deg) (m := 100000000) rd.1 ⟨by omega, by omega⟩
  have b2 := lowF_pos (n := maxTo deg i) rd.1
  have b3 := lowF_den_le (n := maxTo deg i) rd.1
  have xH1 : Ext G H1 := ((Ext.refl G).app _).trans hE
  have g3 : H1[G.length]? = some (.cells true 0 [.int .i64 (lowF (maxTo deg i) (rdenL deg)).1, .int .i64 (lowF (maxTo deg i) (rdenL deg)).2]) := hE.cell at_new
  ((repeat (first | refine q1 ?_ | refine q2 ?_ | refine q3 ?_ | refine q4 ?_ | refine q5 ?_ | refine q6 ?_ | refine q7 ?_ | refine q8 ?_ | refine q9 ?_ | refine qa ?_ | refine qb ?_ | refine qc ?_ | refine qd ?_ | refine qe (by decide) ?_ | refine qf ?_ | refine qg ?_ | ((first | apply aops_all | apply adraw_all); (simp (disch := first | exact List.all_nil | omega | (simp only [go_sem]; done) | (simp only [ln, List.length_map]; omega) | (repeat' first | assumption | exact Ext.refl _ | refine Ext.app ?_ _)) only [go_sem]; rfl)))); (try ((first | apply aops_until | apply adraw_until); (simp (disch := first | exact List.all_nil | omega | (simp only [go_sem]; done) | (simp only [ln, List.length_map]; omega) | (repeat' first | assumption | exact Ext.refl _ | refine Ext.app ?_ _)) only [go_sem]; rfl))))
  refine cond_p rfl (fun hlt => ?_) (fun hge => ?_)
  · have hf : 0 ≤ (i : Int) ∧ (i : Int) ≤ 63 := by omega
    have pb := kprod_bound hd hf
    have c1 := lowF_bound (n := prodL deg i) (d := rdenL deg) (m := 100000000) rd.1 ⟨by omega, by omega⟩
    have c2 := lowF_pos (n := prodL deg i) rd.1
    have c3 := lowF_den_le (n := prodL deg i) rd.1
    have cs : lowF (max (prodL deg i) (-(prodL deg i))) (rdenL deg) = (max (lowF (prodL deg i) (rdenL deg)).1 (-(lowF (prodL deg i) (rdenL deg)).1), (lowF (prodL deg i) (rdenL deg)).2) := by
      rcases lowF_size (n := prodL deg i) (d := rdenL deg) with h | h
      · exact h
      · omega
    have hlt2 := lowF_lt (m := maxTo deg i) (n := max (prodL deg i) (-(prodL deg i))) rd.1
    have em : maxTo deg (i + 1) = if maxTo deg i < max (prodL deg i) (-(prodL deg i)) then max (prodL deg i) (-(prodL deg i)) else maxTo deg i := by
      rw [maxTo_succ]
      generalize maxTo deg i = a
      generalize prodL deg (i : Int) = b
      split <;> omega
    rw [cs] at hlt2
    dsimp only at hlt2
    ((repeat (first | refine q1 ?_ | refine q2 ?_ | refine q3 ?_ | refine q4 ?_ | refine q5 ?_ | refine q6 ?_ | refine q7 ?_ | refine q8 ?_ | refine q9 ?_ | refine qa ?_ | refine qb ?_ | refine qc ?_ | refine qd ?_ | refine qe (by decide) ?_ | refine qf ?_ | refine qg ?_ | ((first | apply aops_all | apply adraw_all); (simp (disch := first | exact List.all_nil | omega | (simp only [go_sem]; done) | (simp only [ln, List.length_map]; omega) | (repeat' first | assumption | exact Ext.refl _ | refine Ext.app ?_ _)) only [go_sem]; rfl)))); (try ((first | apply aops_until | apply adraw_until); (simp (disch := first | exact List.all_nil | omega | (simp only [go_sem]; done) | (simp only [ln, List.length_map]; omega) | (repeat' first | assumption | exact Ext.refl _ | refine Ext.app ?_ _)) only [go_sem]; rfl))))
    refine aops_call_to (refRemainder_c hd hf) ?_
    have hr : remL deg i = lowF (prodL deg i) (rdenL deg) := rfl
    rw [hr]
    generalize lowF (prodL deg i) (rdenL deg) = p at *
    ((repeat (first | refine q1 ?_ | refine q2 ?_ | refine q3 ?_ | refine q4 ?_ | refine q5 ?_ | refine q6 ?_ | refine q7 ?_ | refine q8 ?_ | refine q9 ?_ | refine qa ?_ | refine qb ?_ | refine qc ?_ | refine qd ?_ | refine qe (by decide) ?_ | refine qf ?_ | refine qg ?_ | ((first | apply aops_all | apply adraw_all); (simp (disch := first | exact List.all_nil | omega | (simp only [go_sem]; done) | (simp only [ln, List.length_map]; omega) | (repeat' first | assumption | exact Ext.refl _ | refine Ext.app ?_ _)) only [go_sem]; rfl)))); (try ((first | apply aops_until | apply adraw_until); (simp (disch := first | exact List.all_nil | omega | (simp only [go_sem]; done) | (simp only [ln, List.length_map]; omega) | (repeat' first | assumption | exact Ext.refl _ | refine Ext.app ?_ _)) only [go_sem]; rfl))))
    have h5 : (H1 ++ [AObj.cells true 0 [.int .i64 p.1, .int .i64 p.2]])[H1.length]? = some (.cells true 0 [.int .i64 p.1, .int .i64 p.2]) := at_new
    have hl1 : G.length < H1.length := (List.getElem?_eq_some_iff.1 g3).1
    refine aops_call_to (bsize_c _ (by omega)) ?_
    have st : ∀ y : Int, storeR 1 (.pointer (some ⟨H1.length, 0, none⟩)) (.int .i64 y) (H1 ++ [AObj.cells true 0 [.int .i64 p.1, .int .i64 p.2]]) = some (undef, H1 ++ [AObj.cells true 0 [.int .i64 y, .int .i64 p.2]]) := fun y => by
      have e1 : (Value.int .i64 y).cells.toList = [.int .i64 y] := rfl
      have e2 : (Value.int .i64 y).cells.size = 1 := rfl
      simp only [storeR, e1, e2, if_true, storeAt, h5]
      rw [if_pos ⟨by simp, rfl⟩]
      simp [setCells]
    show AOps _ _ _ (Env.put _ _ (.int .i64 (max p.1 (-p.1)))) _
    ((repeat (first | refine q1 ?_ | refine q2 ?_ | refine q3 ?_ | refine q4 ?_ | refine q5 ?_ | refine q6 ?_ | refine q7 ?_ | refine q8 ?_ | refine q9 ?_ | refine qa ?_ | refine qb ?_ | refine qc ?_ | refine qd ?_ | refine qe (by decide) ?_ | refine qf ?_ | refine qg ?_ | ((first | apply aops_all | apply adraw_all); (simp (disch := first | exact List.all_nil | omega | (simp only [go_sem]; done) | (simp only [ln, List.length_map]; omega) | (repeat' first | assumption | exact Ext.refl _ | refine Ext.app ?_ _)) only [go_sem, st]; rfl)))); (try ((first | apply aops_until | apply adraw_until); (simp (disch := first | exact List.all_nil | omega | (simp only [go_sem]; done) | (simp only [ln, List.length_map]; omega) | (repeat' first | assumption | exact Ext.refl _ | refine Ext.app ?_ _)) only [go_sem, st]; rfl))))
    have h6 : (H1 ++ [AObj.cells true 0 [.int .i64 (max p.1 (-p.1)), .int .i64 p.2]])[H1.length]? = some (.cells true 0 [.int .i64 (max p.1 (-p.1)), .int .i64 p.2]) := at_new
    have x6 := hE.app [AObj.cells true 0 [.int .i64 (max p.1 (-p.1)), .int .i64 p.2]]
    have g6 := at_app (N := [AObj.cells true 0 [.int .i64 (max p.1 (-p.1)), .int .i64 p.2]]) g3
    generalize (H1 ++ [AObj.cells true 0 [.int .i64 (max p.1 (-p.1)), .int .i64 p.2]] : AHeap) = H2 at h6 x6 g6
    have hcc := cmp_c (H := H2) (a := (max p.1 (-p.1), p.2)) (b := ((lowF (maxTo deg i) (rdenL deg)).1, (lowF (maxTo deg i) (rdenL deg)).2)) (by dsimp only; omega) (by dsimp only; omega) (by dsimp only; omega) (by dsimp only; omega)
    by_cases hgt : maxTo deg i < max (prodL deg i) (-(prodL deg i))
    · have h1 := hlt2.2 hgt
      have ecf : cmpF (max p.1 (-p.1), p.2) ((lowF (maxTo deg i) (rdenL deg)).1, (lowF (maxTo deg i) (rdenL deg)).2) = 1 := by
        unfold cmpF; dsimp only; rw [if_neg (by omega), if_pos h1]
      rw [em, if_pos hgt, cs]
      ((repeat (first | refine q1 ?_ | refine q2 ?_ | refine q3 ?_ | refine q4 ?_ | refine q5 ?_ | refine q6 ?_ | refine q7 ?_ | refine q8 ?_ | refine q9 ?_ | refine qa ?_ | refine qb ?_ | refine qc ?_ | refine qd ?_ | refine qe (by decide) ?_ | refine qf ?_ | refine qg ?_ | ((first | apply aops_all | apply adraw_all); (simp (disch := first | exact List.all_nil | omega | (simp only [go_sem]; done) | (simp only [ln, List.length_map]; omega) | (repeat' first | assumption | exact Ext.refl _ | refine Ext.app ?_ _)) only [go_sem, n2_at h6, n2_at g6]; rfl)))); (try ((first | apply aops_until | apply adraw_until); (simp (disch := first | exact List.all_nil | omega | (simp only [go_sem]; done) | (simp only [ln, List.length_map]; omega) | (repeat' first | assumption | exact Ext.refl _ | refine Ext.app ?_ _)) only [go_sem, n2_at h6, n2_at g6]; rfl))))
      refine aops_call_to hcc ?_
      rw [ecf]
      ((repeat (first | refine q1 ?_ | refine q2 ?_ | refine q3 ?_ | refine q4 ?_ | refine q5 ?_ | refine q6 ?_ | refine q7 ?_ | refine q8 ?_ | refine q9 ?_ | refine qa ?_ | refine qb ?_ | refine qc ?_ | refine qd ?_ | refine qe (by decide) ?_ | refine qf ?_ | refine qg ?_ | ((first | apply aops_all | apply adraw_all); (simp (disch := first | exact List.all_nil | omega | (simp only [go_sem]; done) | (simp only [ln, List.length_map]; omega) | (repeat' first | assumption | exact Ext.refl _ | refine Ext.app ?_ _)) only [go_sem]; rfl)))); (try ((first | apply aops_until | apply adraw_until); (simp (disch := first | exact List.all_nil | omega | (simp only [go_sem]; done) | (simp only [ln, List.length_map]; omega) | (repeat' first | assumption | exact Ext.refl _ | refine Ext.app ?_ _)) only [go_sem]; rfl))))
      refine cond_t rfl ?_
      ((repeat (first | refine q1 ?_ | refine q2 ?_ | refine q3 ?_ | refine q4 ?_ | refine q5 ?_ | refine q6 ?_ | refine q7 ?_ | refine q8 ?_ | refine q9 ?_ | refine qa ?_ | refine qb ?_ | refine qc ?_ | refine qd ?_ | refine qe (by decide) ?_ | refine qf ?_ | refine qg ?_ | ((first | apply aops_all | apply adraw_all); (simp (disch := first | exact List.all_nil | omega | (simp only [go_sem]; done) | (simp only [ln, List.length_map]; omega) | (repeat' first | assumption | exact Ext.refl _ | refine Ext.app ?_ _)) only [go_sem, n2_at h6, store_b2 (a := max p.1 (-p.1)) (b := p.2) g6]; rfl)))); (try ((first | apply aops_until | apply adraw_until); (simp (disch := first | exact List.all_nil | omega | (simp only [go_sem]; done) | (simp only [ln, List.length_map]; omega) | (repeat' first | assumption | exact Ext.refl _ | refine Ext.app ?_ _)) only [go_sem, n2_at h6, store_b2 (a := max p.1 (-p.1)) (b := p.2) g6]; rfl))))
      exact ⟨by omega, by simp [forget], x6.last_set _⟩
    · have h1 := fun h => hgt (hlt2.1 h)
      have ecf : ¬ 0 < cmpF (max p.1 (-p.1), p.2) ((lowF (maxTo deg i) (rdenL deg)).1, (lowF (maxTo deg i) (rdenL deg)).2) := by
        unfold cmpF; dsimp only; rw [if_neg (c := (lowF (maxTo deg i) (rdenL deg)).1 * p.2 < max p.1 (-p.1) * (lowF (maxTo deg i) (rdenL deg)).2) h1]; split <;> omega
      rw [em, if_neg hgt]
      ((repeat (first | refine q1 ?_ | refine q2 ?_ | refine q3 ?_ | refine q4 ?_ | refine q5 ?_ | refine q6 ?_ | refine q7 ?_ | refine q8 ?_ | refine q9 ?_ | refine qa ?_ | refine qb ?_ | refine qc ?_ | refine qd ?_ | refine qe (by decide) ?_ | refine qf ?_ | refine qg ?_ | ((first | apply aops_all | apply adraw_all); (simp (disch := first | exact List.all_nil | omega | (simp only [go_sem]; done) | (simp only [ln, List.length_map]; omega) | (repeat' first | assumption | exact Ext.refl _ | refine Ext.app ?_ _)) only [go_sem, n2_at h6, n2_at g6]; rfl)))); (try ((first | apply aops_until | apply adraw_until); (simp (disch := first | exact List.all_nil | omega | (simp only [go_sem]; done) | (simp only [ln, List.length_map]; omega) | (repeat' first | assumption | exact Ext.refl _ | refine Ext.app ?_ _)) only [go_sem, n2_at h6, n2_at g6]; rfl))))
      refine aops_call_to hcc ?_
      ((repeat (first | refine q1 ?_ | refine q2 ?_ | refine q3 ?_ | refine q4 ?_ | refine q5 ?_ | refine q6 ?_ | refine q7 ?_ | refine q8 ?_ | refine q9 ?_ | refine qa ?_ | refine qb ?_ | refine qc ?_ | refine qd ?_ | refine qe (by decide) ?_ | refine qf ?_ | refine qg ?_ | ((first | apply aops_all | apply adraw_all); (simp (disch := first | exact List.all_nil | omega | (simp only [go_sem]; done) | (simp only [ln, List.length_map]; omega) | (repeat' first | assumption | exact Ext.refl _ | refine Ext.app ?_ _)) only [go_sem, dec_f ecf]; rfl)))); (try ((first | apply aops_until | apply adraw_until); (simp (disch := first | exact List.all_nil | omega | (simp only [go_sem]; done) | (simp only [ln, List.length_map]; omega) | (repeat' first | assumption | exact Ext.refl _ | refine Ext.app ?_ _)) only [go_sem, dec_f ecf]; rfl))))
      refine cond_f rfl ?_
      ((repeat (first | refine q1 ?_ | refine q2 ?_ | refine q3 ?_ | refine q4 ?_ | refine q5 ?_ | refine q6 ?_ | refine q7 ?_ | refine q8 ?_ | refine q9 ?_ | refine qa ?_ | refine qb ?_ | refine qc ?_ | refine qd ?_ | refine qe (by decide) ?_ | refine qf ?_ | refine qg ?_ | ((first | apply aops_all | apply adraw_all); (simp (disch := first | exact List.all_nil | omega | (simp only [go_sem]; done) | (simp only [ln, List.length_map]; omega) | (repeat' first | assumption | exact Ext.refl _ | refine Ext.app ?_ _)) only [go_sem]; rfl)))); (try ((first | apply aops_until | apply adraw_until); (simp (disch := first | exact List.all_nil | omega | (simp only [go_sem]; done) | (simp only [ln, List.length_map]; omega) | (repeat' first | assumption | exact Ext.refl _ | refine Ext.app ?_ _)) only [go_sem]; rfl))))
      exact ⟨by omega, by simp [forget], x6⟩
  · obtain rfl : i = 64 := by omega
    have g7 : H1[H.length]? = some (.cells true 0 [.int .i64 0, .int .i64 0]) := xH1.cell y1
    ((repeat (first | refine q1 ?_ | refine q2 ?_ | refine q3 ?_ | refine q4 ?_ | refine q5 ?_ | refine q6 ?_ | refine q7 ?_ | refine q8 ?_ | refine q9 ?_ | refine qa ?_ | refine qb ?_ | refine qc ?_ | refine qd ?_ | refine qe (by decide) ?_ | refine qf ?_ | refine qg ?_ | ((first | apply aops_all | apply adraw_all); (simp (disch := first | exact List.all_nil | omega | (simp only [go_sem]; done) | (simp only [ln, List.length_map]; omega) | (repeat' first | assumption | exact Ext.refl _ | refine Ext.app ?_ _)) only [go_sem, n2_at g3, store_b2 (a := (lowF (maxTo deg 64) (rdenL deg)).1) (b := (lowF (maxTo deg 64) (rdenL deg)).2) g7]; rfl)))); (try ((first | apply aops_until | apply adraw_until); (simp (disch := first | exact List.all_nil | omega | (simp only [go_sem]; done) | (simp only [ln, List.length_map]; omega) | (repeat' first | assumption | exact Ext.refl _ | refine Ext.app ?_ _)) only [go_sem, n2_at g3, store_b2 (a := (lowF (maxTo deg 64) (rdenL deg)).1) (b := (lowF (maxTo deg 64) (rdenL deg)).2) g7]; rfl))))
    refine fin_l1 (u := fracV (lowF (maxTo deg 64) (rdenL deg))) ?_ ?_
    · exact loadN_at (get_set_self g7) (by simp)
    · exact ⟨rfl, (x1.trans xH1).set (Nat.le_refl _) _⟩
end
end Go.Lq

namespace Go.Lq
open Go
open Go.Proofs

def eqvR (kind : Nat) (neg : Bool) (x y : Value) (H : AHeap) : Option (Value × AHeap) := (eqvA kind x y).map fun b => (.bool (neg != b), H)
theorem r_eqv {ρ : Operand → Value} {H : AHeap} {k : Nat} {neg : Bool} {x y : Operand} : ropRun (.eqv k neg x y) ρ H = eqvR k neg (ρ x) (ρ y) H := rfl
theorem eqv_slN {neg : Bool} {a : Addr} {n c : Nat} {H : AHeap} : eqvR 2 neg (.slice (some a) n c) (.slice none 0 0) H = some (.bool (neg != false), H) := rfl
theorem eqv_slNN {neg : Bool} {H : AHeap} : eqvR 2 neg (.slice none 0 0) (.slice none 0 0) H = some (.bool (neg != true), H) := rfl
attribute [go_sem] r_eqv eqv_slN eqv_slNN
theorem ACall.tidyG {P : Program} {g : FuncId} {args : List Value} {H : AHeap} {sz n c : Nat} {vs : List Value} {f : Value → Value} (hf : Wraps f) (hc : ∀ v ∈ vs, Closed v)
    (h : ACall P g args H fun v1 H1 => ∃ id, v1 = f (.slice (some ⟨id, 0, none⟩) n c) ∧ Ext H H1 ∧ H.length ≤ id ∧ H1[id]? = some (.cells true sz vs)) :
    ACall P g args H fun v1 H1 => v1 = f (.slice (some ⟨H.length, 0, none⟩) n c) ∧ H1 = H ++ [.cells true sz vs] :=
  h.rename fun v1 H1 hh => by
    obtain ⟨id, rfl, ⟨M, rfl⟩, h1, hx⟩ := hh
    refine ⟨_, H ++ [.cells true sz vs], _, renames_one h1 hx hc, hf _ _ _ _ ?_, rfl, rfl⟩
    simpa using ren_slice (H := H) (id := id)
/-- The first numbers of an object. -/
theorem ints_first {H : AHeap} {id c : Nat} {l r : List Int} {b : Bool} (h : H[id]? = some (.cells b 1 ((l ++ r).map (.int .i64)))) : Ints H l (.slice (some ⟨id, 0, none⟩) l.length c) := by
  refine ⟨by simp, .inr ⟨id, 0, c, rfl, fun _ => ?_⟩⟩
  unfold cellsAt
  rw [h]
  simp only
  rw [if_pos (by simp), List.drop_zero, List.map_append, List.take_append_of_le_length (by simp), List.take_of_length_le (by simp)]
theorem store_cellI {H : AHeap} {id n c i : Nat} {l : List Int} (h : H[id]? = some (.cells true 1 (l.map (.int .i64)))) (hi : i < l.length) (x : Int) :
    storeR 1 (addrOf (.slice (some ⟨id, 0, none⟩) n c) i) (.int .i64 x) H = some (undef, H.set id (.cells true 1 ((l.set i x).map (.int .i64)))) := by
  have e1 : (Value.int .i64 x).cells.toList = [.int .i64 x] := rfl
  have e2 : (Value.int .i64 x).cells.size = 1 := rfl
  have e3 : ([Value.int .i64 x]).all isAtom = true := rfl
  simp only [addrOf, Nat.zero_add, storeR, e1, e2, if_true, storeAt, h, e3, and_true, List.length_map]
  rw [if_pos (by simp; omega), setCells_one _ _ _ (by simpa using hi)]
  simp only [Option.map_some, List.map_set]

def diffErrL (x : List Int) (k : Int) : Int := firstErr [signalErrL x, (if decide (1 ≤ k ∧ k ≤ 4) = true then 0 else 2)]
theorem diffErr_ok {x : List Int} {k : Int} (h : diffErrL x k = 0) : signalErrL x = 0 ∧ 1 ≤ k ∧ k ≤ 4 := by
  unfold diffErrL at h
  by_cases h2 : signalErrL x = 0
  · refine ⟨h2, ?_⟩
    by_cases h3 : 1 ≤ k ∧ k ≤ 4
    · exact h3
    · simp [firstErr, h2, h3] at h
  · simp [firstErr, h2] at h

section
variable {H : AHeap}
theorem clone_c {x : List Int} {a : Addr} {n c : Nat} (hX : Ints H x (.slice (some a) n c)) (hl : x.length ≤ 1000000000) : ACall Go.Proofs.Tryd.prog 120 [.slice (some a) n c] H fun v H' =>
    ∃ id, v = .slice (some ⟨id, 0, none⟩) x.length x.length ∧ Ext H H' ∧ H.length ≤ id ∧ H'[id]? = some (.cells true 1 (x.map (.int .i64))) := by
  (refine a120 ?_; simp only [n120, List.replicate, List.length_cons, List.length_nil, List.cons_append, List.nil_append])
  ((repeat (first | refine q1 ?_ | refine q2 ?_ | refine q3 ?_ | refine q4 ?_ | refine q5 ?_ | refine q6 ?_ | refine q7 ?_ | refine q8 ?_ | refine q9 ?_ | refine qa ?_ | refine qb ?_ | refine qc ?_ | refine qd ?_ | refine qe (by decide) ?_ | refine qf ?_ | refine qg ?_ | ((first | apply aops_all | apply adraw_all); (simp (disch := first | exact List.all_nil | omega | (simp only [go_sem]; done) | (simp only [ln, List.length_map]; omega) | (repeat' first | assumption | exact Ext.refl _ | refine Ext.app ?_ _)) only [go_sem]; rfl)))); (try ((first | apply aops_until | apply adraw_until); (simp (disch := first | exact List.all_nil | omega | (simp only [go_sem]; done) | (simp only [ln, List.length_map]; omega) | (repeat' first | assumption | exact Ext.refl _ | refine Ext.app ?_ _)) only [go_sem]; rfl))))
  refine cond_f rfl ?_
  obtain ⟨s, H', h1, h2, id, rfl, h3, h4⟩ := append_copy (bytes := 8) hX (isAtom_ints x) (roomOk_of (by omega) (by omega))
  ((repeat (first | refine q1 ?_ | refine q2 ?_ | refine q3 ?_ | refine q4 ?_ | refine q5 ?_ | refine q6 ?_ | refine q7 ?_ | refine q8 ?_ | refine q9 ?_ | refine qa ?_ | refine qb ?_ | refine qc ?_ | refine qd ?_ | refine qe (by decide) ?_ | refine qf ?_ | refine qg ?_ | ((first | apply aops_all | apply adraw_all); (simp (disch := first | exact List.all_nil | omega | (simp only [go_sem]; done) | (simp only [ln, List.length_map]; omega) | (repeat' first | assumption | exact Ext.refl _ | refine Ext.app ?_ _)) only [go_sem, h1]; rfl)))); (try ((first | apply aops_until | apply adraw_until); (simp (disch := first | exact List.all_nil | omega | (simp only [go_sem]; done) | (simp only [ln, List.length_map]; omega) | (repeat' first | assumption | exact Ext.refl _ | refine Ext.app ?_ _)) only [go_sem, h1]; rfl))))
  exact fin_1 ⟨id, rfl, h2, h3, h4⟩
theorem differences_err {x : List Int} {v : Value} {k : Int} (hX : Ints H x v) (hl : x.length ≤ 1000000000) (he : diffErrL x k ≠ 0) : ACall Go.Proofs.Tryd.prog 62 [v, .int .i64 k] H fun w H' =>
    w = .tuple #[.slice none 0 0, .int .i64 (diffErrL x k)] ∧ H' = H := by
  refine ACall.drop (.tuple _ (closed_list (l := [.slice none 0 0, .int .i64 (diffErrL x k)]) fun v hv => by
    simp only [List.mem_cons, List.not_mem_nil, or_false] at hv
    rcases hv with rfl | rfl
    · exact .slice
    · exact .int _ _)) ?_
  (refine a62 ?_; simp only [n62, List.replicate, List.length_cons, List.length_nil, List.cons_append, List.nil_append])
  ((repeat (first | refine q1 ?_ | refine q2 ?_ | refine q3 ?_ | refine q4 ?_ | refine q5 ?_ | refine q6 ?_ | refine q7 ?_ | refine q8 ?_ | refine q9 ?_ | refine qa ?_ | refine qb ?_ | refine qc ?_ | refine qd ?_ | refine qe (by decide) ?_ | refine qf ?_ | refine qg ?_ | ((first | apply aops_all | apply adraw_all); (simp (disch := first | exact List.all_nil | omega | (simp only [go_sem]; done) | (simp only [ln, List.length_map]; omega) | (repeat' first | assumption | exact Ext.refl _ | refine Ext.app ?_ _)) only [go_sem]; rfl)))); (try ((first | apply aops_until | apply adraw_until); (simp (disch := first | exact List.all_nil | omega | (simp only [go_sem]; done) | (simp only [ln, List.length_map]; omega) | (repeat' first | assumption | exact Ext.refl _ | refine Ext.app ?_ _)) only [go_sem]; rfl))))
  refine aops_call_to (signalErr_c hX hl) ?_
  ((repeat (first | refine q1 ?_ | refine q2 ?_ | refine q3 ?_ | refine q4 ?_ | refine q5 ?_ | refine q6 ?_ | refine q7 ?_ | refine q8 ?_ | refine q9 ?_ | refine qa ?_ | refine qb ?_ | refine qc ?_ | refine qd ?_ | refine qe (by decide) ?_ | refine qf ?_ | refine qg ?_ | ((first | apply aops_all | apply adraw_all); (simp (disch := first | exact List.all_nil | omega | (simp only [go_sem]; done) | (simp only [ln, List.length_map]; omega) | (repeat' first | assumption | exact Ext.refl _ | refine Ext.app ?_ _)) only [go_sem]; rfl)))); (try ((first | apply aops_until | apply adraw_until); (simp (disch := first | exact List.all_nil | omega | (simp only [go_sem]; done) | (simp only [ln, List.length_map]; omega) | (repeat' first | assumption | exact Ext.refl _ | refine Ext.app ?_ _)) only [go_sem]; rfl))))
  refine aops_call_to (within_c _ _ _) ?_
  ((repeat (first | refine q1 ?_ | refine q2 ?_ | refine q3 ?_ | refine q4 ?_ | refine q5 ?_ | refine q6 ?_ | refine q7 ?_ | refine q8 ?_ | refine q9 ?_ | refine qa ?_ | refine qb ?_ | refine qc ?_ | refine qd ?_ | refine qe (by decide) ?_ | refine qf ?_ | refine qg ?_ | ((first | apply aops_all | apply adraw_all); (simp (disch := first | exact List.all_nil | omega | (simp only [go_sem]; done) | (simp only [ln, List.length_map]; omega) | (repeat' first | assumption | exact Ext.refl _ | refine Ext.app ?_ _)) only [go_sem]; rfl)))); (try ((first | apply aops_until | apply adraw_until); (simp (disch := first | exact List.all_nil | omega | (simp only [go_sem]; done) | (simp only [ln, List.length_map]; omega) | (repeat' first | assumption | exact Ext.refl _ | refine Ext.app ?_ _)) only [go_sem]; rfl))))
  refine aops_call_to (unless_c _ _) ?_
  ((repeat (first | refine q1 ?_ | refine q2 ?_ | refine q3 ?_ | refine q4 ?_ | refine q5 ?_ | refine q6 ?_ | refine q7 ?_ | refine q8 ?_ | refine q9 ?_ | refine qa ?_ | refine qb ?_ | refine qc ?_ | refine qd ?_ | refine qe (by decide) ?_ | refine qf ?_ | refine qg ?_ | ((first | apply aops_all | apply adraw_all); (simp (disch := first | exact List.all_nil | omega | (simp only [go_sem]; done) | (simp only [ln, List.length_map]; omega) | (repeat' first | assumption | exact Ext.refl _ | refine Ext.app ?_ _)) only [go_sem]; rfl)))); (try ((first | apply aops_until | apply adraw_until); (simp (disch := first | exact List.all_nil | omega | (simp only [go_sem]; done) | (simp only [ln, List.length_map]; omega) | (repeat' first | assumption | exact Ext.refl _ | refine Ext.app ?_ _)) only [go_sem]; rfl))))
  refine aops_call_to (first_c (l := [_, _]) (Ints.last (l := [_, _]) 2) (by simp)) ?_
  have e1 : firstErr [signalErrL x, (if decide (1 ≤ k ∧ k ≤ 4) = true then 0 else 2)] = diffErrL x k := rfl
  rw [e1]
  ((repeat (first | refine q1 ?_ | refine q2 ?_ | refine q3 ?_ | refine q4 ?_ | refine q5 ?_ | refine q6 ?_ | refine q7 ?_ | refine q8 ?_ | refine q9 ?_ | refine qa ?_ | refine qb ?_ | refine qc ?_ | refine qd ?_ | refine qe (by decide) ?_ | refine qf ?_ | refine qg ?_ | ((first | apply aops_all | apply adraw_all); (simp (disch := first | exact List.all_nil | omega | (simp only [go_sem]; done) | (simp only [ln, List.length_map]; omega) | (repeat' first | assumption | exact Ext.refl _ | refine Ext.app ?_ _)) only [go_sem, dec_t he]; rfl)))); (try ((first | apply aops_until | apply adraw_until); (simp (disch := first | exact List.all_nil | omega | (simp only [go_sem]; done) | (simp only [ln, List.length_map]; omega) | (repeat' first | assumption | exact Ext.refl _ | refine Ext.app ?_ _)) only [go_sem, dec_t he]; rfl))))
  refine cond_t rfl ?_
  ((repeat (first | refine q1 ?_ | refine q2 ?_ | refine q3 ?_ | refine q4 ?_ | refine q5 ?_ | refine q6 ?_ | refine q7 ?_ | refine q8 ?_ | refine q9 ?_ | refine qa ?_ | refine qb ?_ | refine qc ?_ | refine qd ?_ | refine qe (by decide) ?_ | refine qf ?_ | refine qg ?_ | ((first | apply aops_all | apply adraw_all); (simp (disch := first | exact List.all_nil | omega | (simp only [go_sem]; done) | (simp only [ln, List.length_map]; omega) | (repeat' first | assumption | exact Ext.refl _ | refine Ext.app ?_ _)) only [go_sem]; rfl)))); (try ((first | apply aops_until | apply adraw_until); (simp (disch := first | exact List.all_nil | omega | (simp only [go_sem]; done) | (simp only [ln, List.length_map]; omega) | (repeat' first | assumption | exact Ext.refl _ | refine Ext.app ?_ _)) only [go_sem]; rfl))))
  exact fin_2 ⟨rfl, (Ext.refl _).app _⟩

set_option maxHeartbeats 1000000 in
theorem differences_ok {x : List Int} {a : Addr} {n c : Nat} {k : Int} (hX : Ints H x (.slice (some a) n c)) (he : diffErrL x k = 0) : ACall Go.Proofs.Tryd.prog 62 [.slice (some a) n c, .int .i64 k] H fun w H' =>
    w = .tuple #[.slice (some ⟨H.length, 0, none⟩) (diffK x k.toNat).length (if (diffK x k.toNat).length = 0 then 1 else (diffK x k.toNat).length), .int .i64 0] ∧ H' = H ++ [.cells true 1 ((diffK x k.toNat ++ junkK x k.toNat).map (.int .i64))] := by
  refine ACall.tidyG (f := fun s => .tuple #[s, .int .i64 0]) (wraps_1 (.int _ _)) (closed_ints _) ?_
  obtain ⟨hs, hk⟩ := diffErr_ok he
  obtain ⟨s1, s2⟩ := signalErr_ok hs
  have hdb := diffK_bound s2
  (refine a62 ?_; simp only [n62, List.replicate, List.length_cons, List.length_nil, List.cons_append, List.nil_append])
  ((repeat (first | refine q1 ?_ | refine q2 ?_ | refine q3 ?_ | refine q4 ?_ | refine q5 ?_ | refine q6 ?_ | refine q7 ?_ | refine q8 ?_ | refine q9 ?_ | refine qa ?_ | refine qb ?_ | refine qc ?_ | refine qd ?_ | refine qe (by decide) ?_ | refine qf ?_ | refine qg ?_ | ((first | apply aops_all | apply adraw_all); (simp (disch := first | exact List.all_nil | omega | (simp only [go_sem]; done) | (simp only [ln, List.length_map]; omega) | (repeat' first | assumption | exact Ext.refl _ | refine Ext.app ?_ _)) only [go_sem]; rfl)))); (try ((first | apply aops_until | apply adraw_until); (simp (disch := first | exact List.all_nil | omega | (simp only [go_sem]; done) | (simp only [ln, List.length_map]; omega) | (repeat' first | assumption | exact Ext.refl _ | refine Ext.app ?_ _)) only [go_sem]; rfl))))
  refine aops_call_to (signalErr_c hX (by omega)) ?_
  ((repeat (first | refine q1 ?_ | refine q2 ?_ | refine q3 ?_ | refine q4 ?_ | refine q5 ?_ | refine q6 ?_ | refine q7 ?_ | refine q8 ?_ | refine q9 ?_ | refine qa ?_ | refine qb ?_ | refine qc ?_ | refine qd ?_ | refine qe (by decide) ?_ | refine qf ?_ | refine qg ?_ | ((first | apply aops_all | apply adraw_all); (simp (disch := first | exact List.all_nil | omega | (simp only [go_sem]; done) | (simp only [ln, List.length_map]; omega) | (repeat' first | assumption | exact Ext.refl _ | refine Ext.app ?_ _)) only [go_sem]; rfl)))); (try ((first | apply aops_until | apply adraw_until); (simp (disch := first | exact List.all_nil | omega | (simp only [go_sem]; done) | (simp only [ln, List.length_map]; omega) | (repeat' first | assumption | exact Ext.refl _ | refine Ext.app ?_ _)) only [go_sem]; rfl))))
  refine aops_call_to (within_c _ _ _) ?_
  ((repeat (first | refine q1 ?_ | refine q2 ?_ | refine q3 ?_ | refine q4 ?_ | refine q5 ?_ | refine q6 ?_ | refine q7 ?_ | refine q8 ?_ | refine q9 ?_ | refine qa ?_ | refine qb ?_ | refine qc ?_ | refine qd ?_ | refine qe (by decide) ?_ | refine qf ?_ | refine qg ?_ | ((first | apply aops_all | apply adraw_all); (simp (disch := first | exact List.all_nil | omega | (simp only [go_sem]; done) | (simp only [ln, List.length_map]; omega) | (repeat' first | assumption | exact Ext.refl _ | refine Ext.app ?_ _)) only [go_sem]; rfl)))); (try ((first | apply aops_until | apply adraw_until); (simp (disch := first | exact List.all_nil | omega | (simp only [go_sem]; done) | (simp only [ln, List.length_map]; omega) | (repeat' first | assumption | exact Ext.refl _ | refine Ext.app ?_ _)) only [go_sem]; rfl))))
  refine aops_call_to (unless_c _ _) ?_
  ((repeat (first | refine q1 ?_ | refine q2 ?_ | refine q3 ?_ | refine q4 ?_ | refine q5 ?_ | refine q6 ?_ | refine q7 ?_ | refine q8 ?_ | refine q9 ?_ | refine qa ?_ | refine qb ?_ | refine qc ?_ | refine qd ?_ | refine qe (by decide) ?_ | refine qf ?_ | refine qg ?_ | ((first | apply aops_all | apply adraw_all); (simp (disch := first | exact List.all_nil | omega | (simp only [go_sem]; done) | (simp only [ln, List.length_map]; omega) | (repeat' first | assumption | exact Ext.refl _ | refine Ext.app ?_ _)) only [go_sem]; rfl)))); (try ((first | apply aops_until | apply adraw_until); (simp (disch := first | exact List.all_nil | omega | (simp only [go_sem]; done) | (simp only [ln, List.length_map]; omega) | (repeat' first | assumption | exact Ext.refl _ | refine Ext.app ?_ _)) only [go_sem]; rfl))))
  refine aops_call_to (first_c (l := [_, _]) (Ints.last (l := [_, _]) 2) (by simp)) ?_
  have e1 : firstErr [signalErrL x, (if decide (1 ≤ k ∧ k ≤ 4) = true then 0 else 2)] = diffErrL x k := rfl
  rw [e1, he]
  have xG := (Ext.refl H).app [AObj.cells true 1 [.int .i64 (signalErrL x), .int .i64 (if decide (1 ≤ k ∧ k ≤ 4) = true then 0 else 2)]]
  generalize (H ++ [AObj.cells true 1 [.int .i64 (signalErrL x), .int .i64 (if decide (1 ≤ k ∧ k ≤ 4) = true then 0 else 2)]] : AHeap) = G at xG
  ((repeat (first | refine q1 ?_ | refine q2 ?_ | refine q3 ?_ | refine q4 ?_ | refine q5 ?_ | refine q6 ?_ | refine q7 ?_ | refine q8 ?_ | refine q9 ?_ | refine qa ?_ | refine qb ?_ | refine qc ?_ | refine qd ?_ | refine qe (by decide) ?_ | refine qf ?_ | refine qg ?_ | ((first | apply aops_all | apply adraw_all); (simp (disch := first | exact List.all_nil | omega | (simp only [go_sem]; done) | (simp only [ln, List.length_map]; omega) | (repeat' first | assumption | exact Ext.refl _ | refine Ext.app ?_ _)) only [go_sem]; rfl)))); (try ((first | apply aops_until | apply adraw_until); (simp (disch := first | exact List.all_nil | omega | (simp only [go_sem]; done) | (simp only [ln, List.length_map]; omega) | (repeat' first | assumption | exact Ext.refl _ | refine Ext.app ?_ _)) only [go_sem]; rfl))))
  refine cond_f rfl ?_
  ((repeat (first | refine q1 ?_ | refine q2 ?_ | refine q3 ?_ | refine q4 ?_ | refine q5 ?_ | refine q6 ?_ | refine q7 ?_ | refine q8 ?_ | refine q9 ?_ | refine qa ?_ | refine qb ?_ | refine qc ?_ | refine qd ?_ | refine qe (by decide) ?_ | refine qf ?_ | refine qg ?_ | ((first | apply aops_all | apply adraw_all); (simp (disch := first | exact List.all_nil | omega | (simp only [go_sem]; done) | (simp only [ln, List.length_map]; omega) | (repeat' first | assumption | exact Ext.refl _ | refine Ext.app ?_ _)) only [go_sem]; rfl)))); (try ((first | apply aops_until | apply adraw_until); (simp (disch := first | exact List.all_nil | omega | (simp only [go_sem]; done) | (simp only [ln, List.length_map]; omega) | (repeat' first | assumption | exact Ext.refl _ | refine Ext.app ?_ _)) only [go_sem]; rfl))))
  refine aops_call ((clone_c (hX.ext xG) (by omega)).mono fun u G1 ⟨id, hu, x1, hid, ho⟩ => ?_)
  subst hu
  have xG1 := xG.trans x1
  have hHid : H.length ≤ id := Nat.le_trans xG.len hid
  clear hid
  ((repeat (first | refine q1 ?_ | refine q2 ?_ | refine q3 ?_ | refine q4 ?_ | refine q5 ?_ | refine q6 ?_ | refine q7 ?_ | refine q8 ?_ | refine q9 ?_ | refine qa ?_ | refine qb ?_ | refine qc ?_ | refine qd ?_ | refine qe (by decide) ?_ | refine qf ?_ | refine qg ?_ | ((first | apply aops_all | apply adraw_all); (simp (disch := first | exact List.all_nil | omega | (simp only [go_sem]; done) | (simp only [ln, List.length_map]; omega) | (repeat' first | assumption | exact Ext.refl _ | refine Ext.app ?_ _)) only [go_sem]; rfl)))); (try ((first | apply aops_until | apply adraw_until); (simp (disch := first | exact List.all_nil | omega | (simp only [go_sem]; done) | (simp only [ln, List.length_map]; omega) | (repeat' first | assumption | exact Ext.refl _ | refine Ext.app ?_ _)) only [go_sem]; rfl))))
  refine awp_loop_n [false, true, false, false, false, true, false, true, false, false, false, false, false, false, false, false, false, false, false, false, false, true, true, false, false, false, false, false, false, false, false, false, false, false, false, false, false, false, false, false, false, false, false, false, false, false, false, false, false, false, false, false] k.toNat (fun j e H' => ∃ cc, e = [junk, .int .i64 k, junk, junk, junk, .int .i64 0, junk, .slice (some ⟨id, 0, none⟩) (diffK x j).length cc, junk, junk, junk, junk, junk, junk, junk, junk, junk, junk, junk, junk, junk, .int .i64 k, .int .i64 j, junk, junk, junk, junk, junk, junk, junk, junk, junk, junk, junk, junk, junk, junk, junk, junk, junk, junk, junk, junk, junk, junk, junk, junk, junk, junk, junk, junk, junk] ∧ Ext H H' ∧ H'[id]? = some (.cells true 1 ((diffK x j ++ junkK x j).map (.int .i64))) ∧ (0 < j → cc = if (diffK x j).length = 0 then 1 else (diffK x j).length)) ?_ ?_
  · exact ⟨x.length, by simp [forget, diffK], xG1, by simpa [diffK, junkK] using ho, by omega⟩
  rintro j e H1 hj ⟨cc, rfl, x2, ho1, hcc⟩
  have hkk : ((k.toNat : Nat) : Int) = k := by omega
  ((repeat (first | refine q1 ?_ | refine q2 ?_ | refine q3 ?_ | refine q4 ?_ | refine q5 ?_ | refine q6 ?_ | refine q7 ?_ | refine q8 ?_ | refine q9 ?_ | refine qa ?_ | refine qb ?_ | refine qc ?_ | refine qd ?_ | refine qe (by decide) ?_ | refine qf ?_ | refine qg ?_ | ((first | apply aops_all | apply adraw_all); (simp (disch := first | exact List.all_nil | omega | (simp only [go_sem]; done) | (simp only [ln, List.length_map]; omega) | (repeat' first | assumption | exact Ext.refl _ | refine Ext.app ?_ _)) only [go_sem]; rfl)))); (try ((first | apply aops_until | apply adraw_until); (simp (disch := first | exact List.all_nil | omega | (simp only [go_sem]; done) | (simp only [ln, List.length_map]; omega) | (repeat' first | assumption | exact Ext.refl _ | refine Ext.app ?_ _)) only [go_sem]; rfl))))
  refine cond_p rfl (fun hlt => ?_) (fun hge => ?_)
  rotate_left 1
  · obtain rfl : j = k.toNat := by omega
    ((repeat (first | refine q1 ?_ | refine q2 ?_ | refine q3 ?_ | refine q4 ?_ | refine q5 ?_ | refine q6 ?_ | refine q7 ?_ | refine q8 ?_ | refine q9 ?_ | refine qa ?_ | refine qb ?_ | refine qc ?_ | refine qd ?_ | refine qe (by decide) ?_ | refine qf ?_ | refine qg ?_ | ((first | apply aops_all | apply adraw_all); (simp (disch := first | exact List.all_nil | omega | (simp only [go_sem]; done) | (simp only [ln, List.length_map]; omega) | (repeat' first | assumption | exact Ext.refl _ | refine Ext.app ?_ _)) only [go_sem]; rfl)))); (try ((first | apply aops_until | apply adraw_until); (simp (disch := first | exact List.all_nil | omega | (simp only [go_sem]; done) | (simp only [ln, List.length_map]; omega) | (repeat' first | assumption | exact Ext.refl _ | refine Ext.app ?_ _)) only [go_sem]; rfl))))
    exact fin_2 ⟨id, by rw [← hcc (by omega)]; rfl, x2, hHid, ho1⟩
  have hlen := diffK_len x j
  have hb := hdb j (by omega)
  have hsucc : diffK x (j + 1) = diffL (diffK x j) := rfl
  have hjunk : junkK x (j + 1) = (diffK x j).drop ((diffK x j).length - 1) ++ junkK x j := rfl
  generalize diffK x j = l at *
  generalize junkK x j = jk at *
  ((repeat (first | refine q1 ?_ | refine q2 ?_ | refine q3 ?_ | refine q4 ?_ | refine q5 ?_ | refine q6 ?_ | refine q7 ?_ | refine q8 ?_ | refine q9 ?_ | refine qa ?_ | refine qb ?_ | refine qc ?_ | refine qd ?_ | refine qe (by decide) ?_ | refine qf ?_ | refine qg ?_ | ((first | apply aops_all | apply adraw_all); (simp (disch := first | exact List.all_nil | omega | (simp only [go_sem]; done) | (simp only [ln, List.length_map]; omega) | (repeat' first | assumption | exact Ext.refl _ | refine Ext.app ?_ _)) only [go_sem]; rfl)))); (try ((first | apply aops_until | apply adraw_until); (simp (disch := first | exact List.all_nil | omega | (simp only [go_sem]; done) | (simp only [ln, List.length_map]; omega) | (repeat' first | assumption | exact Ext.refl _ | refine Ext.app ?_ _)) only [go_sem]; rfl))))
  refine awp_loop_n [false, true, false, false, false, true, false, true, true, false, false, false, false, false, false, false, false, false, false, false, false, true, true, false, false, false, false, false, false, false, false, false, false, false, false, false, false, false, false, false, false, false, false, false, false, false, false, false, false, false, false, false] (l.length - 1) (fun i e H' => e = [junk, .int .i64 k, junk, junk, junk, .int .i64 0, junk, .slice (some ⟨id, 0, none⟩) l.length cc, .int .i64 (i + 1 : Nat), junk, junk, junk, junk, junk, junk, junk, junk, junk, junk, junk, junk, .int .i64 k, .int .i64 j, junk, junk, junk, junk, junk, junk, junk, junk, junk, junk, junk, junk, junk, junk, junk, junk, junk, junk, junk, junk, junk, junk, junk, junk, junk, junk, junk, junk, junk] ∧ Ext H H' ∧ H'[id]? = some (.cells true 1 ((midD l i ++ jk).map (.int .i64)))) ?_ ?_
  · exact ⟨by simp [forget], x2, by rw [midD_zero]; exact ho1⟩
  rintro i e H2 hi ⟨rfl, x3, ho2⟩
  ((repeat (first | refine q1 ?_ | refine q2 ?_ | refine q3 ?_ | refine q4 ?_ | refine q5 ?_ | refine q6 ?_ | refine q7 ?_ | refine q8 ?_ | refine q9 ?_ | refine qa ?_ | refine qb ?_ | refine qc ?_ | refine qd ?_ | refine qe (by decide) ?_ | refine qf ?_ | refine qg ?_ | ((first | apply aops_all | apply adraw_all); (simp (disch := first | exact List.all_nil | omega | (simp only [go_sem]; done) | (simp only [ln, List.length_map]; omega) | (repeat' first | assumption | exact Ext.refl _ | refine Ext.app ?_ _)) only [go_sem]; rfl)))); (try ((first | apply aops_until | apply adraw_until); (simp (disch := first | exact List.all_nil | omega | (simp only [go_sem]; done) | (simp only [ln, List.length_map]; omega) | (repeat' first | assumption | exact Ext.refl _ | refine Ext.app ?_ _)) only [go_sem]; rfl))))
  refine cond_p rfl (fun hlt2 => ?_) (fun hge2 => ?_)
  · have hi' : i + 1 < l.length := by omega
    have hml : (midD l i).length = l.length := midD_len (by omega)
    have hV : Ints H2 (midD l i) (.slice (some ⟨id, 0, none⟩) l.length cc) := by
      have := ints_first (c := cc) ho2
      rwa [hml] at this
    have hb1 := hb (i + 1)
    have hb0 := hb i
    have m1 := midD_get (l := l) (i := i) (j := i + 1) (by omega) (by omega)
    have m0 := midD_get (l := l) (i := i) (j := i) (by omega) (by omega)
    have t1 : ((i + 1 : Nat) : Int).toNat = i + 1 := by omega
    have t0 : (((i + 1 : Nat) : Int) - 1).toNat = i := by omega
    have hml' : ((midD l i).length : Int) = l.length := by omega
    have hst := store_cellI (n := l.length) (c := cc) (i := i) ho2 (by simp; omega) (l.getD (i + 1) 0 - l.getD i 0)
    rw [List.set_append_left _ _ (by omega), midD_step hi'] at hst
    ((repeat (first | refine q1 ?_ | refine q2 ?_ | refine q3 ?_ | refine q4 ?_ | refine q5 ?_ | refine q6 ?_ | refine q7 ?_ | refine q8 ?_ | refine q9 ?_ | refine qa ?_ | refine qb ?_ | refine qc ?_ | refine qd ?_ | refine qe (by decide) ?_ | refine qf ?_ | refine qg ?_ | ((first | apply aops_all | apply adraw_all); (simp (disch := first | exact List.all_nil | omega | (simp only [go_sem]; done) | (simp only [ln, List.length_map]; omega) | (repeat' first | assumption | exact Ext.refl _ | refine Ext.app ?_ _)) only [go_sem, hV.len, hV.idx, hV.load, t0, m1, m0, hst]; rfl)))); (try ((first | apply aops_until | apply adraw_until); (simp (disch := first | exact List.all_nil | omega | (simp only [go_sem]; done) | (simp only [ln, List.length_map]; omega) | (repeat' first | assumption | exact Ext.refl _ | refine Ext.app ?_ _)) only [go_sem, hV.len, hV.idx, hV.load, t0, m1, m0, hst]; rfl))))
    refine ⟨by omega, by simp [forget], x3.set hHid _, ?_⟩
    exact get_set_self ho2
  · have hend : i = l.length - 1 := by omega
    subst hend
    rw [midD_end] at ho2
    have hV : Sl H2 1 l.length ((diffL l ++ l.drop (l.length - 1)).map (.int .i64)) (.slice (some ⟨id, 0, none⟩) l.length cc) := by
      have h1 : (diffL l ++ l.drop (l.length - 1)).length = l.length := by rw [List.length_append, diffL_len, List.length_drop]; omega
      have := ints_first (c := cc) ho2
      unfold Ints at this
      rwa [h1] at this
    have hto := fun H' => Sl.to hV (H' := H') (m := max 0 ((l.length : Int) - 1)) (k := .i64) (by omega) (by omega)
    have e1 : (max 0 ((l.length : Int) - 1)).toNat = (diffL l).length := by rw [diffL_len]; omega
    rw [e1] at hto
    ((repeat (first | refine q1 ?_ | refine q2 ?_ | refine q3 ?_ | refine q4 ?_ | refine q5 ?_ | refine q6 ?_ | refine q7 ?_ | refine q8 ?_ | refine q9 ?_ | refine qa ?_ | refine qb ?_ | refine qc ?_ | refine qd ?_ | refine qe (by decide) ?_ | refine qf ?_ | refine qg ?_ | ((first | apply aops_all | apply adraw_all); (simp (disch := first | exact List.all_nil | omega | (simp only [go_sem]; done) | (simp only [ln, List.length_map]; omega) | (repeat' first | assumption | exact Ext.refl _ | refine Ext.app ?_ _)) only [go_sem, hto]; rfl)))); (try ((first | apply aops_until | apply adraw_until); (simp (disch := first | exact List.all_nil | omega | (simp only [go_sem]; done) | (simp only [ln, List.length_map]; omega) | (repeat' first | assumption | exact Ext.refl _ | refine Ext.app ?_ _)) only [go_sem, hto]; rfl))))
    refine ⟨by omega, if (diffL l).length = 0 then 1 else (diffL l).length, by rw [hsucc]; simp [forget, toV], x3, ?_, fun _ => by rw [hsucc]⟩
    rw [hsucc, hjunk, ← List.append_assoc]
    exact ho2

set_option maxHeartbeats 1000000 in
theorem refDifferences_c {x : List Int} {v : Value} {k : Int} (hX : Ints H x v) (he : diffErrL x k = 0) : ACall Go.Proofs.Tryd.prog 68 [v, .int .i64 k] H (IntsRet H (diffK x k.toNat)) := by
  refine ACall.ints ?_
  obtain ⟨hs, hk⟩ := diffErr_ok he
  obtain ⟨s1, s2⟩ := signalErr_ok hs
  have hdb := diffK_bound s2
  have hkk : ((k.toNat : Nat) : Int) = k := by omega
  (refine a68 ?_; simp only [n68, List.replicate, List.length_cons, List.length_nil, List.cons_append, List.nil_append])
  ((repeat (first | refine q1 ?_ | refine q2 ?_ | refine q3 ?_ | refine q4 ?_ | refine q5 ?_ | refine q6 ?_ | refine q7 ?_ | refine q8 ?_ | refine q9 ?_ | refine qa ?_ | refine qb ?_ | refine qc ?_ | refine qd ?_ | refine qe (by decide) ?_ | refine qf ?_ | refine qg ?_ | ((first | apply aops_all | apply adraw_all); (simp (disch := first | exact List.all_nil | omega | (simp only [go_sem]; done) | (simp only [ln, List.length_map]; omega) | (repeat' first | assumption | exact Ext.refl _ | refine Ext.app ?_ _)) only [go_sem]; rfl)))); (try ((first | apply aops_until | apply adraw_until); (simp (disch := first | exact List.all_nil | omega | (simp only [go_sem]; done) | (simp only [ln, List.length_map]; omega) | (repeat' first | assumption | exact Ext.refl _ | refine Ext.app ?_ _)) only [go_sem]; rfl))))
  refine aops_call ((copyInts_c hX (by omega)).mono fun u G1 ⟨h1, h2⟩ => ?_)
  have hu : Ints G1 x u := by rw [h1, h2]; exact Ints.last _
  have x1 : Ext H G1 := ⟨_, h2⟩
  clear h1 h2
  ((repeat (first | refine q1 ?_ | refine q2 ?_ | refine q3 ?_ | refine q4 ?_ | refine q5 ?_ | refine q6 ?_ | refine q7 ?_ | refine q8 ?_ | refine q9 ?_ | refine qa ?_ | refine qb ?_ | refine qc ?_ | refine qd ?_ | refine qe (by decide) ?_ | refine qf ?_ | refine qg ?_ | ((first | apply aops_all | apply adraw_all); (simp (disch := first | exact List.all_nil | omega | (simp only [go_sem]; done) | (simp only [ln, List.length_map]; omega) | (repeat' first | assumption | exact Ext.refl _ | refine Ext.app ?_ _)) only [go_sem]; rfl)))); (try ((first | apply aops_until | apply adraw_until); (simp (disch := first | exact List.all_nil | omega | (simp only [go_sem]; done) | (simp only [ln, List.length_map]; omega) | (repeat' first | assumption | exact Ext.refl _ | refine Ext.app ?_ _)) only [go_sem]; rfl))))
  refine awp_loop_n [false, true, false, false, false, true, true, false, false, false, false, false, false, false, false, false, false, false, false, false, false, false, false, false, false, false, false, false, false, false, false, false, false, false, false, false, false] k.toNat (fun j e H' => ∃ lv, e = [junk, .int .i64 k, junk, junk, junk, lv, .int .i64 j, junk, junk, junk, junk, junk, junk, junk, junk, junk, junk, junk, junk, junk, junk, junk, junk, junk, junk, junk, junk, junk, junk, junk, junk, junk, junk, junk, junk, junk, junk] ∧ Ext H H' ∧ Ints H' (diffK x j) lv ∧ (0 < j → OwnI H H' (diffK x j) lv)) ?_ ?_
  · exact ⟨u, by simp [forget], x1, hu, by omega⟩
  rintro j e H1 hj ⟨lv, rfl, x2, hl1, hown⟩
  ((repeat (first | refine q1 ?_ | refine q2 ?_ | refine q3 ?_ | refine q4 ?_ | refine q5 ?_ | refine q6 ?_ | refine q7 ?_ | refine q8 ?_ | refine q9 ?_ | refine qa ?_ | refine qb ?_ | refine qc ?_ | refine qd ?_ | refine qe (by decide) ?_ | refine qf ?_ | refine qg ?_ | ((first | apply aops_all | apply adraw_all); (simp (disch := first | exact List.all_nil | omega | (simp only [go_sem]; done) | (simp only [ln, List.length_map]; omega) | (repeat' first | assumption | exact Ext.refl _ | refine Ext.app ?_ _)) only [go_sem]; rfl)))); (try ((first | apply aops_until | apply adraw_until); (simp (disch := first | exact List.all_nil | omega | (simp only [go_sem]; done) | (simp only [ln, List.length_map]; omega) | (repeat' first | assumption | exact Ext.refl _ | refine Ext.app ?_ _)) only [go_sem]; rfl))))
  refine cond_p rfl (fun hlt => ?_) (fun hge => ?_)
  rotate_left 1
  · obtain rfl : j = k.toNat := by omega
    ((repeat (first | refine q1 ?_ | refine q2 ?_ | refine q3 ?_ | refine q4 ?_ | refine q5 ?_ | refine q6 ?_ | refine q7 ?_ | refine q8 ?_ | refine q9 ?_ | refine qa ?_ | refine qb ?_ | refine qc ?_ | refine qd ?_ | refine qe (by decide) ?_ | refine qf ?_ | refine qg ?_ | ((first | apply aops_all | apply adraw_all); (simp (disch := first | exact List.all_nil | omega | (simp only [go_sem]; done) | (simp only [ln, List.length_map]; omega) | (repeat' first | assumption | exact Ext.refl _ | refine Ext.app ?_ _)) only [go_sem]; rfl)))); (try ((first | apply aops_until | apply adraw_until); (simp (disch := first | exact List.all_nil | omega | (simp only [go_sem]; done) | (simp only [ln, List.length_map]; omega) | (repeat' first | assumption | exact Ext.refl _ | refine Ext.app ?_ _)) only [go_sem]; rfl))))
    exact fin_1 ⟨x2, hown (by omega)⟩
  have hlen := diffK_len x j
  have hb := hdb j (by omega)
  have hsucc : diffK x (j + 1) = diffL (diffK x j) := rfl
  generalize diffK x j = l at *
  clear hown
  ((repeat (first | refine q1 ?_ | refine q2 ?_ | refine q3 ?_ | refine q4 ?_ | refine q5 ?_ | refine q6 ?_ | refine q7 ?_ | refine q8 ?_ | refine q9 ?_ | refine qa ?_ | refine qb ?_ | refine qc ?_ | refine qd ?_ | refine qe (by decide) ?_ | refine qf ?_ | refine qg ?_ | ((first | apply aops_all | apply adraw_all); (simp (disch := first | exact List.all_nil | omega | (simp only [go_sem]; done) | (simp only [ln, List.length_map]; omega) | (repeat' first | assumption | exact Ext.refl _ | refine Ext.app ?_ _)) only [go_sem]; rfl)))); (try ((first | apply aops_until | apply adraw_until); (simp (disch := first | exact List.all_nil | omega | (simp only [go_sem]; done) | (simp only [ln, List.length_map]; omega) | (repeat' first | assumption | exact Ext.refl _ | refine Ext.app ?_ _)) only [go_sem]; rfl))))
  refine awp_loop_n [false, true, false, false, false, true, true, true, true, false, false, false, false, false, false, false, false, false, false, false, false, false, false, false, false, false, false, false, false, false, false, false, false, false, false, false, false] (l.length - 1) (fun i e H' => ∃ ov, e = [junk, .int .i64 k, junk, junk, junk, lv, .int .i64 j, ov, .int .i64 (i + 1 : Nat), junk, junk, junk, junk, junk, junk, junk, junk, junk, junk, junk, junk, junk, junk, junk, junk, junk, junk, junk, junk, junk, junk, junk, junk, junk, junk, junk, junk] ∧ Ext H1 H' ∧ OwnI H1 H' ((diffL l).take i) ov) ?_ ?_
  · exact ⟨.slice none 0 0, by simp [forget], Ext.refl _, OwnI.nil _ _⟩
  rintro i e H2 hi ⟨ov, rfl, x3, ho⟩
  have hl2 := hl1.ext x3
  ((repeat (first | refine q1 ?_ | refine q2 ?_ | refine q3 ?_ | refine q4 ?_ | refine q5 ?_ | refine q6 ?_ | refine q7 ?_ | refine q8 ?_ | refine q9 ?_ | refine qa ?_ | refine qb ?_ | refine qc ?_ | refine qd ?_ | refine qe (by decide) ?_ | refine qf ?_ | refine qg ?_ | ((first | apply aops_all | apply adraw_all); (simp (disch := first | exact List.all_nil | omega | (simp only [go_sem]; done) | (simp only [ln, List.length_map]; omega) | (repeat' first | assumption | exact Ext.refl _ | refine Ext.app ?_ _)) only [go_sem, hl2.len, hl2.idx, hl2.load]; rfl)))); (try ((first | apply aops_until | apply adraw_until); (simp (disch := first | exact List.all_nil | omega | (simp only [go_sem]; done) | (simp only [ln, List.length_map]; omega) | (repeat' first | assumption | exact Ext.refl _ | refine Ext.app ?_ _)) only [go_sem, hl2.len, hl2.idx, hl2.load]; rfl))))
  refine cond_p rfl (fun hlt2 => ?_) (fun hge2 => ?_)
  · have hi' : i + 1 < l.length := by omega
    have hb1 := hb (i + 1)
    have hb0 := hb i
    have t1 : ((i + 1 : Nat) : Int).toNat = i + 1 := by omega
    have t0 : (((i + 1 : Nat) : Int) - 1).toNat = i := by omega
    have htl : ((diffL l).take i).length = i := by rw [List.length_take, diffL_len]; omega
    have hpush := ho.push (by omega) (l.getD (i + 1) 0 - l.getD i 0)
    have hstep : (diffL l).take (i + 1) = (diffL l).take i ++ [l.getD (i + 1) 0 - l.getD i 0] := by
      rw [take_succ_getD (d := 0) (by rw [diffL_len]; omega), diffL_getD hi']
    ((repeat (first | refine q1 ?_ | refine q2 ?_ | refine q3 ?_ | refine q4 ?_ | refine q5 ?_ | refine q6 ?_ | refine q7 ?_ | refine q8 ?_ | refine q9 ?_ | refine qa ?_ | refine qb ?_ | refine qc ?_ | refine qd ?_ | refine qe (by decide) ?_ | refine qf ?_ | refine qg ?_ | ((first | apply aops_all | apply adraw_all); (simp (disch := first | exact List.all_nil | omega | (simp only [go_sem]; done) | (simp only [ln, List.length_map]; omega) | (repeat' first | assumption | exact Ext.refl _ | refine Ext.app ?_ _)) only [go_sem, hl2.len, hl2.idx, hl2.load, t0, hpush]; rfl)))); (try ((first | apply aops_until | apply adraw_until); (simp (disch := first | exact List.all_nil | omega | (simp only [go_sem]; done) | (simp only [ln, List.length_map]; omega) | (repeat' first | assumption | exact Ext.refl _ | refine Ext.app ?_ _)) only [go_sem, hl2.len, hl2.idx, hl2.load, t0, hpush]; rfl))))
    refine ⟨by omega, pushV H2 ((diffL l).take i).length, by simp [forget], ho.ext x3 _, ?_⟩
    rw [hstep]
    exact ho.pushed x3 _
  · have hend : i = l.length - 1 := by omega
    subst hend
    rw [List.take_of_length_le (by rw [diffL_len]; exact Nat.le_refl _)] at ho
    ((repeat (first | refine q1 ?_ | refine q2 ?_ | refine q3 ?_ | refine q4 ?_ | refine q5 ?_ | refine q6 ?_ | refine q7 ?_ | refine q8 ?_ | refine q9 ?_ | refine qa ?_ | refine qb ?_ | refine qc ?_ | refine qd ?_ | refine qe (by decide) ?_ | refine qf ?_ | refine qg ?_ | ((first | apply aops_all | apply adraw_all); (simp (disch := first | exact List.all_nil | omega | (simp only [go_sem]; done) | (simp only [ln, List.length_map]; omega) | (repeat' first | assumption | exact Ext.refl _ | refine Ext.app ?_ _)) only [go_sem]; rfl)))); (try ((first | apply aops_until | apply adraw_until); (simp (disch := first | exact List.all_nil | omega | (simp only [go_sem]; done) | (simp only [ln, List.length_map]; omega) | (repeat' first | assumption | exact Ext.refl _ | refine Ext.app ?_ _)) only [go_sem]; rfl))))
    refine ⟨by omega, ov, by simp [forget], x2.trans x3, by rw [hsucc]; exact ho.ints, fun _ => by rw [hsucc]; exact ho.weaken x2.len⟩
end
end Go.Lq
