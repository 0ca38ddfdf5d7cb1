/- Towards TopResampleBack of seat YtlcfgealkjomnaaDoor: it returns true for every input. Made out of the proof's own texts, merged. -/
import Derived.Test.YtlcfgealkjomnaaDoorV92
set_option linter.unusedSimpArgs false
set_option linter.unnecessarySimpa false
set_option linter.unusedVariables false
set_option maxRecDepth 100000
namespace Go.Lq

theorem atTime_succ {l : List (Int × Int)} {t : Int} {i k : Nat} : atTime l t i (k + 1) = if (l.getD (i + 1) (0, 0)).2 < t then atTime l t (i + 1) k else i := rfl
theorem MapOk.timeOne {l : List (Int × Int)} (h : MapOk l) {t : Int} (h0 : (l.getD 0 (0, 0)).2 ≤ t) : ∀ {k i : Nat}, i + k + 1 = l.length → (∀ m, m < i → (l.getD (m + 1) (0, 0)).2 < t) →
    t ≤ (l.getD (l.length - 1) (0, 0)).2 → findP (inTime t) l i k = if k = 0 then none else some (atTime l t i (k - 1))
  | 0, i, _, _, _ => rfl
  | k + 1, i, hk, hm, ht => by
    have hlo : (l.getD i (0, 0)).2 ≤ t := by
      cases i with
      | zero => exact h0
      | succ i => exact Int.le_of_lt (hm i (by omega))
    unfold findP
    by_cases hu : t ≤ (l.getD (i + 1) (0, 0)).2
    · rw [if_pos (by simp only [inTime, pieceOf]; exact decide_eq_true ⟨hlo, hu⟩), if_neg (by omega)]
      cases k with
      | zero => rfl
      | succ k => rw [show k + 1 + 1 - 1 = k + 1 by omega, atTime_succ, if_neg (by omega)]
    · rw [if_neg (fun h => hu (of_decide_eq_true h).2)]
      have hk0 : k ≠ 0 := fun e => by
        subst e
        rw [show l.length - 1 = i + 1 by omega] at ht
        exact hu ht
      rw [MapOk.timeOne h h0 (k := k) (i := i + 1) (by omega) (fun m h2 => by
        by_cases e : m = i
        · subst e; omega
        · exact hm m (by omega)) ht, if_neg hk0, if_neg (by omega)]
      obtain ⟨k, rfl⟩ : ∃ j, k = j + 1 := ⟨k - 1, by omega⟩
      show _ = some (atTime l t i (k + 1))
      rw [atTime_succ, if_pos (by omega), Nat.add_sub_cancel]
def posN (p : (Int × Int) × (Int × Int)) (t : Int) : Int := (t - p.1.2) * (64 * (p.2.1 - p.1.1))
def posLo (p : (Int × Int) × (Int × Int)) (t : Int) : Int := 64 * p.1.1 + posN p t / (p.2.2 - p.1.2)
def posHi (p : (Int × Int) × (Int × Int)) (t : Int) : Int := if posN p t % (p.2.2 - p.1.2) = 0 then posLo p t else posLo p t + 1
end Go.Lq

namespace Go.Lq

def atPos (l : List (Int × Int)) (t : Int) (i : Nat) : Nat → Nat
  | 0 => i
  | k + 1 => if (l.getD (i + 1) (0, 0)).1 < t then atPos l t (i + 1) k else i
theorem atPos_succ {l : List (Int × Int)} {t : Int} {i k : Nat} : atPos l t i (k + 1) = if (l.getD (i + 1) (0, 0)).1 < t then atPos l t (i + 1) k else i := rfl
theorem atPos_stop {l : List (Int × Int)} {t : Int} {i k : Nat} (h : ¬ (l.getD (i + 1) (0, 0)).1 < t) : atPos l t i k = i := by
  cases k with
  | zero => rfl
  | succ k => rw [atPos_succ, if_neg h]
theorem MapOk.posOne {l : List (Int × Int)} (h : MapOk l) {t : Int} (h0 : (l.getD 0 (0, 0)).1 ≤ t) : ∀ {k i : Nat}, i + k + 1 = l.length → (∀ m, m < i → (l.getD (m + 1) (0, 0)).1 < t) →
    t ≤ (l.getD (l.length - 1) (0, 0)).1 → findP (inPos t) l i k = if k = 0 then none else some (atPos l t i (k - 1))
  | 0, i, _, _, _ => rfl
  | k + 1, i, hk, hm, ht => by
    have hlo : (l.getD i (0, 0)).1 ≤ t := by
      cases i with
      | zero => exact h0
      | succ i => exact Int.le_of_lt (hm i (by omega))
    unfold findP
    by_cases hu : t ≤ (l.getD (i + 1) (0, 0)).1
    · rw [if_pos (by simp only [inPos, pieceOf]; exact decide_eq_true ⟨hlo, hu⟩), if_neg (by omega)]
      cases k with
      | zero => rfl
      | succ k => rw [show k + 1 + 1 - 1 = k + 1 by omega, atPos_succ, if_neg (by omega)]
    · rw [if_neg (fun h => hu (of_decide_eq_true h).2)]
      have hk0 : k ≠ 0 := fun e => by
        subst e
        rw [show l.length - 1 = i + 1 by omega] at ht
        exact hu ht
      rw [MapOk.posOne h h0 (k := k) (i := i + 1) (by omega) (fun m h2 => by
        by_cases e : m = i
        · subst e; omega
        · exact hm m (by omega)) ht, if_neg hk0, if_neg (by omega)]
      obtain ⟨k, rfl⟩ : ∃ j, k = j + 1 := ⟨k - 1, by omega⟩
      show _ = some (atPos l t i (k + 1))
      rw [atPos_succ, if_pos (by omega), Nat.add_sub_cancel]
theorem atPos_in {l : List (Int × Int)} {t : Int} : ∀ {k i : Nat}, i + k + 1 < l.length → (l.getD i (0, 0)).1 ≤ t → atPos l t i k + 1 < l.length ∧ (l.getD (atPos l t i k) (0, 0)).1 ≤ t
  | 0, i, h, h2 => ⟨by show i + 1 < _; omega, h2⟩
  | k + 1, i, h, h2 => by
    rw [atPos_succ]
    split
    · exact atPos_in (by omega) (by omega)
    · exact ⟨by omega, h2⟩
theorem atPos_up {l : List (Int × Int)} {t : Int} : ∀ {k i : Nat}, i + k + 2 = l.length → t ≤ (l.getD (l.length - 1) (0, 0)).1 → t ≤ (l.getD (atPos l t i k + 1) (0, 0)).1
  | 0, i, h, ht => by
    show t ≤ (l.getD (i + 1) (0, 0)).1
    rwa [show l.length - 1 = i + 1 by omega] at ht
  | k + 1, i, h, ht => by
    rw [atPos_succ]
    split
    · exact atPos_up (by omega) ht
    · omega
def timN (p : (Int × Int) × (Int × Int)) (n : Int) : Int := p.1.2 * (p.2.1 - p.1.1) + (p.2.2 - p.1.2) * (n - p.1.1)
def timLo (p : (Int × Int) × (Int × Int)) (n : Int) : Int := timN p n / (p.2.1 - p.1.1)
def timHi (p : (Int × Int) × (Int × Int)) (n : Int) : Int := -(-timN p n / (p.2.1 - p.1.1))
theorem timLo_eq {p : (Int × Int) × (Int × Int)} {n : Int} (h : p.1.1 < p.2.1) : timLo p n = p.1.2 + (p.2.2 - p.1.2) * (n - p.1.1) / (p.2.1 - p.1.1) := by
  unfold timLo timN
  rw [Int.add_comm, Int.mul_comm p.1.2, Int.add_mul_ediv_left _ _ (show p.2.1 - p.1.1 ≠ 0 by omega)]
  omega
theorem timLo_first {p : (Int × Int) × (Int × Int)} (h : p.1.1 < p.2.1) : timLo p p.1.1 = p.1.2 := by
  rw [timLo_eq h, Int.sub_self, Int.mul_zero, Int.zero_ediv]; omega
theorem timLo_last {p : (Int × Int) × (Int × Int)} (h : p.1.1 < p.2.1) : timLo p p.2.1 = p.2.2 := by
  rw [timLo_eq h, Int.mul_ediv_cancel _ (show p.2.1 - p.1.1 ≠ 0 by omega)]; omega
def timeL (l : List (Int × Int)) (n : Int) : Int := timLo (pieceOf l (atPos l n 0 (l.length - 2))) n
theorem MapOk.posInj {l : List (Int × Int)} (h : MapOk l) {i j : Nat} (hij : i < j) (hj : j < l.length) : (l.getD i (0, 0)).1 < (l.getD j (0, 0)).1 := by
  have := h.posLt (k := j - i - 1) (i := i) (by omega)
  rwa [show i + (j - i - 1) + 1 = j by omega] at this
theorem timeL_piece {l : List (Int × Int)} (h : MapOk l) {n : Int} {i : Nat} (hi : i + 1 < l.length) (h1 : (l.getD i (0, 0)).1 ≤ n) (h2 : n ≤ (l.getD (i + 1) (0, 0)).1) : timeL l n = timLo (pieceOf l i) n := by
  have hlo := h.lo
  have h0 : (l.getD 0 (0, 0)).1 ≤ n := Int.le_trans (h.posLe (Nat.zero_le i) (by omega)) h1
  have hE : n ≤ (l.getD (l.length - 1) (0, 0)).1 := Int.le_trans h2 (h.posLe (show i + 1 ≤ l.length - 1 by omega) (by omega))
  obtain ⟨a1, a2⟩ := atPos_in (l := l) (t := n) (k := l.length - 2) (i := 0) (by omega) h0
  have a3 := atPos_up (l := l) (t := n) (k := l.length - 2) (i := 0) (by omega) hE
  unfold timeL
  generalize atPos l n 0 (l.length - 2) = j at *
  by_cases e : i = j
  · rw [e]
  by_cases hij : i < j
  · -- the node i + 1 is the node j, and n lies there
    have c1 := h.posLe (show i + 1 ≤ j by omega) (by omega)
    have e1 : i + 1 = j := by
      refine Decidable.byContradiction fun hn => ?_
      have := h.posInj (show i + 1 < j by omega) (by omega)
      omega
    subst e1
    have e2 : n = (pieceOf l (i + 1)).1.1 := by show n = (l.getD (i + 1) (0, 0)).1; omega
    have e3 : n = (pieceOf l i).2.1 := by show n = (l.getD (i + 1) (0, 0)).1; omega
    rw [show timLo (pieceOf l (i + 1)) n = (pieceOf l (i + 1)).1.2 by rw [e2]; exact timLo_first (h.posUp (i + 1) (by omega)), show timLo (pieceOf l i) n = (pieceOf l i).2.2 by rw [e3]; exact timLo_last (h.posUp i (by omega))]
    rfl
  · have c1 := h.posLe (show j + 1 ≤ i by omega) (by omega)
    have e1 : j + 1 = i := by
      refine Decidable.byContradiction fun hn => ?_
      have := h.posInj (show j + 1 < i by omega) (by omega)
      omega
    subst e1
    have e2 : n = (pieceOf l (j + 1)).1.1 := by show n = (l.getD (j + 1) (0, 0)).1; omega
    have e3 : n = (pieceOf l j).2.1 := by show n = (l.getD (j + 1) (0, 0)).1; omega
    rw [show timLo (pieceOf l (j + 1)) n = (pieceOf l (j + 1)).1.2 by rw [e2]; exact timLo_first (h.posUp (j + 1) (by omega)), show timLo (pieceOf l j) n = (pieceOf l j).2.2 by rw [e3]; exact timLo_last (h.posUp j (by omega))]
    rfl
theorem timN_bound {p : (Int × Int) × (Int × Int)} {n : Int} (p1 : 0 ≤ p.1.1 ∧ p.1.1 ≤ 1000000) (p2 : 0 ≤ p.2.1 ∧ p.2.1 ≤ 1000000) (p3 : 0 ≤ p.1.2 ∧ p.1.2 ≤ 1000000000000) (p4 : 0 ≤ p.2.2 ∧ p.2.2 ≤ 1000000000000)
    (p5 : p.1.1 < p.2.1) (p6 : p.1.2 < p.2.2) (h1 : p.1.1 ≤ n) (h2 : n ≤ p.2.1) :
    (0 ≤ p.1.2 * (p.2.1 - p.1.1) ∧ p.1.2 * (p.2.1 - p.1.1) ≤ 1000000000000000000) ∧ (0 ≤ (p.2.2 - p.1.2) * (n - p.1.1) ∧ (p.2.2 - p.1.2) * (n - p.1.1) ≤ 1000000000000000000) := by
  have a1 := Int.mul_nonneg p3.1 (show 0 ≤ p.2.1 - p.1.1 by omega)
  have a2 := Int.mul_nonneg (show 0 ≤ p.2.2 - p.1.2 by omega) (show 0 ≤ n - p.1.1 by omega)
  have a3 := Int.mul_le_mul_of_nonneg_right p3.2 (show 0 ≤ p.2.1 - p.1.1 by omega)
  have a4 := Int.mul_le_mul_of_nonneg_right (show p.2.2 - p.1.2 ≤ 1000000000000 by omega) (show 0 ≤ n - p.1.1 by omega)
  omega
end Go.Lq

namespace Go.Lq
open Go

section
variable {H : AHeap}

theorem copyInts_c {l : List Int} {v : Value} (hl : Ints H l v) (hb : l.length ≤ 1000000000) :
    ACall Go.Proofs.Tryd.prog 25 [v] H fun v H1 => v = .slice (some ⟨H.length, 0, none⟩) l.length l.length ∧ H1 = H ++ [.cells true 1 (l.map (.int .i64))] := by
  refine ACall.tidyE (f := id) (sz := 1) (n := l.length) (vs := l.map (.int .i64)) wraps_id (closed_ints l) ?_
  (refine a25 ?_; simp only [n25, List.replicate, List.length_cons, List.length_nil, List.cons_append, List.nil_append]; first | refine q1 ?_ | refine q2 ?_ | refine q6 ?_ | refine q7 ?_ | refine qh rfl ?_ | skip)
  rcases hl with ⟨h1, h2⟩
  rcases h2 with ⟨rfl, hn⟩ | ⟨id, off, c, rfl, hc⟩
  · have : l = [] := List.length_eq_zero_iff.1 hn
    subst this
    have ha : appendA 1 8 (H ++ [.cells true 1 []]) (.slice (some ⟨H.length, 0, none⟩) 0 0) (.slice none 0 0) = some (.slice (some ⟨H.length, 0, none⟩) 0 0, H ++ [.cells true 1 []]) := rfl
    ((repeat (first | refine ya (by (with_reducible constructor) <;> first | rfl | decide) ?_ | apply yb | refine yc rfl ?_ | ((first | apply yd | apply ye); simp (disch := first | exact List.all_nil | omega | (simp only [go_sem]; done) | (simp only [ln, List.length_map]; omega) | (repeat' first | assumption | exact Ext.refl _ | refine Ext.app ?_ _)) only [go_sem, ha]; with_reducible rfl))))
    exact fin_1 ⟨_, H.length, rfl, ⟨_, rfl⟩, rfl, Nat.le_refl _, by simp⟩
  · by_cases hn : l.length = 0
    · have : l = [] := List.length_eq_zero_iff.1 hn
      subst this
      have ha : appendA 1 8 (H ++ [.cells true 1 []]) (.slice (some ⟨H.length, 0, none⟩) 0 0) (.slice (some ⟨id, off, none⟩) ([] : List Int).length c) = some (.slice (some ⟨H.length, 0, none⟩) 0 0, H ++ [.cells true 1 []]) := rfl
      ((repeat (first | refine ya (by (with_reducible constructor) <;> first | rfl | decide) ?_ | apply yb | refine yc rfl ?_ | ((first | apply yd | apply ye); simp (disch := first | exact List.all_nil | omega | (simp only [go_sem]; done) | (simp only [ln, List.length_map]; omega) | (repeat' first | assumption | exact Ext.refl _ | refine Ext.app ?_ _)) only [go_sem, ha]; with_reducible rfl))))
      exact fin_1 ⟨_, H.length, rfl, ⟨_, rfl⟩, rfl, Nat.le_refl _, by simp⟩
    · have ha : appendA 1 8 (H ++ [.cells true 1 []]) (.slice (some ⟨H.length, 0, none⟩) 0 0) (.slice (some ⟨id, off, none⟩) l.length c) =
          some (.slice (some ⟨(H ++ [AObj.cells true 1 []]).length, 0, none⟩) l.length l.length, (H ++ [.cells true 1 []]) ++ [.cells true 1 (l.map (.int .i64))]) := by
        obtain ⟨k, hk⟩ : ∃ k, l.length = k + 1 := ⟨l.length - 1, by omega⟩
        have hc' := cellsAt_ext ⟨[AObj.cells true 1 []], rfl⟩ (hc (by omega))
        have hr : roomOk 8 (0 + l.length) = true := roomOk_of (by omega) (by omega)
        rw [hk] at hc' hr ⊢
        simp only [appendA, hc', isAtom_ints, hr, and_self, if_true]
      ((repeat (first | refine ya (by (with_reducible constructor) <;> first | rfl | decide) ?_ | apply yb | refine yc rfl ?_ | ((first | apply yd | apply ye); simp (disch := first | exact List.all_nil | omega | (simp only [go_sem]; done) | (simp only [ln, List.length_map]; omega) | (repeat' first | assumption | exact Ext.refl _ | refine Ext.app ?_ _)) only [go_sem, ha]; with_reducible rfl))))
      refine fin_1 ?_
      exact ⟨_, (H ++ [AObj.cells true 1 []]).length, rfl, ⟨_, List.append_assoc _ _ _⟩, rfl, by simp, by simp⟩

theorem bsize_c (n : Int) (hn : -9223372036854775807 ≤ n ∧ n ≤ 9223372036854775807) : ACall Go.Proofs.Tryd.prog 35 [.int .i64 n] H fun v H' => v = .int .i64 (max n (-n)) ∧ H' = H := by
  (refine a35 ?_; simp only [n35, List.replicate, List.length_cons, List.length_nil, List.cons_append, List.nil_append]; first | refine q1 ?_ | refine q2 ?_ | refine q6 ?_ | refine q7 ?_ | refine qh rfl ?_ | skip)
  ((repeat (first | refine ya (by (with_reducible constructor) <;> first | rfl | decide) ?_ | apply yb | refine yc rfl ?_ | ((first | apply yd | apply ye); simp (disch := first | exact List.all_nil | omega | (simp only [go_sem]; done) | (simp only [ln, List.length_map]; omega) | (repeat' first | assumption | exact Ext.refl _ | refine Ext.app ?_ _)) only [go_sem]; with_reducible rfl))))
  refine fin_1 ⟨?_, rfl⟩
  simp

end
theorem firstD {P : Program} {G : AHeap} {f : FuncId} {args : List Value} {v : Value} (h : ACall P f args G fun v1 H1 => v1 = v ∧ H1 = G) : ACall P f args G fun v1 H1 => v1 = v ∧ H1 = G ++ [] :=
  h.mono fun _ _ ⟨a, b⟩ => ⟨a, by simp [b]⟩

end Go.Lq

namespace Go.Lq
open Go
open Go.Proofs
variable {H : AHeap}

theorem store_at2v {id e : Nat} {x y a b : Value} (h : H[id]? = some (.cells true e [x, y])) (ha : isAtom a = true) (hb : isAtom b = true) : storeR 2 (.pointer (some ⟨id, 0, none⟩)) (.agg ⟨[a, b]⟩) H = some (undef, H.set id (.cells true e [a, b])) := by
  have e1 : (Value.agg ⟨[a, b]⟩).cells = ⟨[a, b]⟩ := rfl
  have e2 : ([a, b] : List Value).all isAtom = true := by simp [ha, hb]
  have e3 : setCells [x, y] 0 [a, b] = [a, b] := rfl
  simp only [storeR, e1, List.size_toArray, storeAt, h, e2, e3, and_true, List.length_cons, List.length_nil]
  rfl
end Go.Lq

namespace Go.Lq

theorem mul_abs {x y : Int} {a b : Nat} (hx : -(a : Int) ≤ x ∧ x ≤ a) (hy : -(b : Int) ≤ y ∧ y ≤ b) : -((a * b : Nat) : Int) ≤ x * y ∧ x * y ≤ ((a * b : Nat) : Int) := by
  have h := Nat.mul_le_mul (show x.natAbs ≤ a by omega) (show y.natAbs ≤ b by omega)
  rw [← Int.natAbs_mul] at h
  omega
theorem floor_neg {n b : Int} (hb : 0 < b) : -((b - 1 - n) / b) = n / b := by
  have h1 := Int.mul_ediv_add_emod n b
  have h2 := Int.emod_nonneg n (show b ≠ 0 by omega)
  have h3 := Int.emod_lt_of_pos n hb
  have e : b - 1 - n = (b - 1 - n % b) + b * (-(n / b)) := by rw [Int.mul_neg]; omega
  rw [e, Int.add_mul_ediv_left _ _ (by omega), Int.ediv_eq_zero_of_lt (by omega) (by omega)]
  omega
theorem ediv_bound {n b : Int} {m : Nat} (hb : 0 < b) (h : -(m : Int) ≤ n ∧ n ≤ m) : -(m : Int) ≤ n / b ∧ n / b ≤ m := by
  constructor
  · refine Int.le_ediv_of_mul_le hb ?_
    have : (-(m : Int)) * b ≤ -(m : Int) * 1 := Int.mul_le_mul_of_nonpos_left (by omega) (by omega)
    omega
  · by_cases hn : 0 ≤ n
    · exact Int.le_trans (Int.ediv_le_self _ hn) h.2
    · have := Int.ediv_neg_of_neg_of_pos (show n < 0 by omega) hb
      omega

def signalErrL (x : List Int) : Int := if 400 < x.length then 8 else if x.all (fun n => decide (-32767 ≤ n ∧ n ≤ 32767)) = true then 0 else 2
theorem all_sized {m : Int} {l : List Int} (hm : 0 ≤ m) (h : l.all (fun n => decide (-m ≤ n ∧ n ≤ m)) = true) (i : Nat) : -m ≤ l.getD i 0 ∧ l.getD i 0 ≤ m := by
  by_cases hi : i < l.length
  · simpa using all_getD (d := 0) h hi
  · rw [List.getD_eq_getElem?_getD, List.getElem?_eq_none (by omega)]
    simp; omega
theorem signalErr_ok {x : List Int} (h : signalErrL x = 0) : x.length ≤ 400 ∧ ∀ i : Nat, -32767 ≤ x.getD i 0 ∧ x.getD i 0 ≤ 32767 := by
  unfold signalErrL at h
  split at h
  · cases h
  · split at h
    · rename_i h1 h2; exact ⟨by omega, all_sized (by decide) h2⟩
    · cases h
end Go.Lq

namespace Go.Lq

def holdsB (s d amp b : Int) : Prop := amp - (-(s * b)) / d ≤ b
instance (s d amp b : Int) : Decidable (holdsB s d amp b) := inferInstanceAs (Decidable (_ ≤ _))
def stableW (s d amp : Int) : Int := -((-(amp * d)) / (d - s))
theorem holds_iff {s d amp b : Int} (hd : 0 < d) : holdsB s d amp b ↔ amp * d + s * b ≤ d * b := by
  unfold holdsB
  have h := Int.le_ediv_iff_mul_le hd (a := amp - b) (b := -(s * b))
  have e : (amp - b) * d = amp * d - d * b := by rw [Int.sub_mul, Int.mul_comm b d]
  rw [e] at h
  constructor
  · intro h1; have := h.1 (by omega); omega
  · intro h1; have := h.2 (by omega); omega
theorem holds_stable {s d amp b : Int} (hd : 0 < d) (hs : s < d) : holdsB s d amp b ↔ stableW s d amp ≤ b := by
  rw [holds_iff hd]
  unfold stableW
  have h := Int.le_ediv_iff_mul_le (show 0 < d - s by omega) (a := -b) (b := -(amp * d))
  have e : -b * (d - s) = s * b - d * b := by rw [Int.mul_sub, Int.neg_mul, Int.neg_mul, Int.mul_comm b d, Int.mul_comm b s]; omega
  rw [e] at h
  constructor
  · intro h1; have := h.2 (by omega); omega
  · intro h1; have := h.1 (by omega); omega
theorem stableW_nn {s d amp : Int} (ha : 0 ≤ amp) (hd : 0 < d) (hs : s < d) : 0 ≤ stableW s d amp := by
  unfold stableW
  have h1 := Int.mul_nonneg ha (Int.le_of_lt hd)
  have h2 := Int.ediv_le_ediv (show 0 < d - s by omega) (show -(amp * d) ≤ (d - s) * 0 by omega)
  rw [Int.mul_ediv_cancel_left _ (by omega)] at h2
  omega
theorem stableW_le {s d amp : Int} (ha : 0 ≤ amp ∧ amp ≤ 32767) (hd : 1 ≤ d ∧ d ≤ 1000) (hs : s < d) : stableW s d amp ≤ 32767000 := by
  unfold stableW
  have h1 := mul_abs (x := amp) (y := d) (a := 32767) (b := 1000) ⟨by omega, by omega⟩ ⟨by omega, by omega⟩
  have h2 := ediv_bound (n := -(amp * d)) (b := d - s) (m := 32767000) (by omega) ⟨by omega, by omega⟩
  omega

def szI (n : Int) : Int := max n (-n)
def sgI (n : Int) : Int := if n < 0 then -1 else if 0 < n then 1 else 0
theorem mul_sg (n : Int) : n * sgI n = szI n := by
  unfold sgI szI
  split
  · omega
  · split <;> omega
end Go.Lq

namespace Go.Lq
open Go
open Go.Proofs

theorem Ints.atom {H : AHeap} {l : List Int} {v : Value} (h : Ints H l v) : isAtom v = true := by
  rcases h.2 with ⟨rfl, _⟩ | ⟨id, off, c, rfl, _⟩ <;> rfl
theorem n2_at {G : AHeap} {id : Nat} {a b : Value} (h : G[id]? = some (.cells true 0 [a, b])) : loadNR 2 (.pointer (some ⟨id, 0, none⟩)) G = some (.agg ⟨[a, b]⟩, G) := loadN_at h (by simp)
theorem any_not (l : List Int) (p : Int → Bool) : (l.any fun n => !p n) = !l.all p := by rw [← List.not_all_eq_any_not]
theorem fill2v {x y a : Value} {b : Int} (ha : isAtom a = true) : fillA [x, y] [(0, 1, a), (1, 1, .int .i64 b)] = some [a, .int .i64 b] := by
  have e : a.cells = ⟨[a]⟩ := by cases a <;> first | rfl | cases ha
  have h1 : fillA [x, y] [(0, 1, a), (1, 1, .int .i64 b)] = fillA [a, y] [(1, 1, .int .i64 b)] := by
    conv => lhs; unfold fillA
    rw [e, if_pos ⟨rfl, by simp, by simp [ha]⟩]
    rfl
  rw [h1, fillA_int (by simp)]
  rfl

section
variable {H : AHeap}
theorem rfloor_c (n b : Int) (hb : 0 < b ∧ b ≤ 1000000000000) (hn : -4000000000000000000 ≤ n ∧ n ≤ 4000000000000000000) :
    ACall Go.Proofs.Tryd.prog 91 [.int .i64 n, .int .i64 b] H fun v H' => v = .int .i64 (n / b) ∧ H' = H := by
  have hq := ediv_bound (n := n) (b := b) (m := 4000000000000000000) hb.1 ⟨by omega, by omega⟩
  have f := floor_neg (n := n) hb.1
  (refine a91 ?_; simp only [n91, List.replicate, List.length_cons, List.length_nil, List.cons_append, List.nil_append]; first | refine q1 ?_ | refine q2 ?_ | refine q6 ?_ | refine q7 ?_ | refine qh rfl ?_ | skip)
  ((repeat (first | refine ya (by (with_reducible constructor) <;> first | rfl | decide) ?_ | apply yb | refine yc rfl ?_ | ((first | apply yd | apply ye); simp (disch := first | exact List.all_nil | omega | (simp only [go_sem]; done) | (simp only [ln, List.length_map]; omega) | (repeat' first | assumption | exact Ext.refl _ | refine Ext.app ?_ _)) only [go_sem]; with_reducible rfl))))
  refine cond_p rfl (fun hneg => ?_) (fun hpos => ?_)
  · have e : (b - 1 - n).tdiv b = (b - 1 - n) / b := Int.tdiv_eq_ediv_of_nonneg (by omega)
    ((repeat (first | refine ya (by (with_reducible constructor) <;> first | rfl | decide) ?_ | apply yb | refine yc rfl ?_ | ((first | apply yd | apply ye); simp (disch := first | exact List.all_nil | omega | (simp only [go_sem]; done) | (simp only [ln, List.length_map]; omega) | (repeat' first | assumption | exact Ext.refl _ | refine Ext.app ?_ _)) only [go_sem, e]; with_reducible rfl))))
    refine fin_1 ⟨?_, rfl⟩
    rw [← f]
    simp
  · have e : n.tdiv b = n / b := Int.tdiv_eq_ediv_of_nonneg (by omega)
    ((repeat (first | refine ya (by (with_reducible constructor) <;> first | rfl | decide) ?_ | apply yb | refine yc rfl ?_ | ((first | apply yd | apply ye); simp (disch := first | exact List.all_nil | omega | (simp only [go_sem]; done) | (simp only [ln, List.length_map]; omega) | (repeat' first | assumption | exact Ext.refl _ | refine Ext.app ?_ _)) only [go_sem, e]; with_reducible rfl))))
    exact fin_1 ⟨rfl, rfl⟩

theorem isWeight_c (n : Int) : ACall Go.Proofs.Tryd.prog 115 [.int .i64 n] H fun v H' => v = .bool (decide (-1000 ≤ n ∧ n ≤ 1000)) ∧ H' = H := by
  (refine a115 ?_; simp only [n115, List.replicate, List.length_cons, List.length_nil, List.cons_append, List.nil_append]; first | refine q1 ?_ | refine q2 ?_ | refine q6 ?_ | refine q7 ?_ | refine qh rfl ?_ | skip)
  ((repeat (first | refine ya (by (with_reducible constructor) <;> first | rfl | decide) ?_ | apply yb | refine yc rfl ?_ | ((first | apply yd | apply ye); simp (disch := first | exact List.all_nil | omega | (simp only [go_sem]; done) | (simp only [ln, List.length_map]; omega) | (repeat' first | assumption | exact Ext.refl _ | refine Ext.app ?_ _)) only [go_sem]; with_reducible rfl))))
  refine aops_call_to (isSized_c _ _ (by omega)) ?_
  ((repeat (first | refine ya (by (with_reducible constructor) <;> first | rfl | decide) ?_ | apply yb | refine yc rfl ?_ | ((first | apply yd | apply ye); simp (disch := first | exact List.all_nil | omega | (simp only [go_sem]; done) | (simp only [ln, List.length_map]; omega) | (repeat' first | assumption | exact Ext.refl _ | refine Ext.app ?_ _)) only [go_sem]; with_reducible rfl))))
  exact fin_1 ⟨rfl, rfl⟩
theorem isDen_c (n : Int) : ACall Go.Proofs.Tryd.prog 116 [.int .i64 n] H fun v H' => v = .bool (decide (1 ≤ n ∧ n ≤ 1000)) ∧ H' = H := by
  (refine a116 ?_; simp only [n116, List.replicate, List.length_cons, List.length_nil, List.cons_append, List.nil_append]; first | refine q1 ?_ | refine q2 ?_ | refine q6 ?_ | refine q7 ?_ | refine qh rfl ?_ | skip)
  ((repeat (first | refine ya (by (with_reducible constructor) <;> first | rfl | decide) ?_ | apply yb | refine yc rfl ?_ | ((first | apply yd | apply ye); simp (disch := first | exact List.all_nil | omega | (simp only [go_sem]; done) | (simp only [ln, List.length_map]; omega) | (repeat' first | assumption | exact Ext.refl _ | refine Ext.app ?_ _)) only [go_sem]; with_reducible rfl))))
  refine aops_call_to (within_c _ _ _) ?_
  ((repeat (first | refine ya (by (with_reducible constructor) <;> first | rfl | decide) ?_ | apply yb | refine yc rfl ?_ | ((first | apply yd | apply ye); simp (disch := first | exact List.all_nil | omega | (simp only [go_sem]; done) | (simp only [ln, List.length_map]; omega) | (repeat' first | assumption | exact Ext.refl _ | refine Ext.app ?_ _)) only [go_sem]; with_reducible rfl))))
  exact fin_1 ⟨rfl, rfl⟩
theorem signalErr1_c : Asks (.func (.func 131) #[] #[]) (fun n => !decide (-32767 ≤ n ∧ n ≤ 32767)) := fun n H => by
  show ACall _ _ _ _ _
  (refine a131 ?_; simp only [n131, List.replicate, List.length_cons, List.length_nil, List.cons_append, List.nil_append]; first | refine q1 ?_ | refine q2 ?_ | refine q6 ?_ | refine q7 ?_ | refine qh rfl ?_ | skip)
  ((repeat (first | refine ya (by (with_reducible constructor) <;> first | rfl | decide) ?_ | apply yb | refine yc rfl ?_ | ((first | apply yd | apply ye); simp (disch := first | exact List.all_nil | omega | (simp only [go_sem]; done) | (simp only [ln, List.length_map]; omega) | (repeat' first | assumption | exact Ext.refl _ | refine Ext.app ?_ _)) only [go_sem]; with_reducible rfl))))
  refine aops_call_to (isSized_c _ _ (by omega)) ?_
  ((repeat (first | refine ya (by (with_reducible constructor) <;> first | rfl | decide) ?_ | apply yb | refine yc rfl ?_ | ((first | apply yd | apply ye); simp (disch := first | exact List.all_nil | omega | (simp only [go_sem]; done) | (simp only [ln, List.length_map]; omega) | (repeat' first | assumption | exact Ext.refl _ | refine Ext.app ?_ _)) only [go_sem]; with_reducible rfl))))
  exact fin_1 ⟨rfl, rfl⟩
theorem signalErr_c {x : List Int} {v : Value} (hx : Ints H x v) (hb : x.length ≤ 1000000000) : ACall Go.Proofs.Tryd.prog 89 [v] H fun v H' => v = .int .i64 (signalErrL x) ∧ H' = H := by
  refine ACall.drop (.int _ _) ?_
  (refine a89 ?_; simp only [n89, List.replicate, List.length_cons, List.length_nil, List.cons_append, List.nil_append]; first | refine q1 ?_ | refine q2 ?_ | refine q6 ?_ | refine q7 ?_ | refine qh rfl ?_ | skip)
  ((repeat (first | refine ya (by (with_reducible constructor) <;> first | rfl | decide) ?_ | apply yb | refine yc rfl ?_ | ((first | apply yd | apply ye); simp (disch := first | exact List.all_nil | omega | (simp only [go_sem]; done) | (simp only [ln, List.length_map]; omega) | (repeat' first | assumption | exact Ext.refl _ | refine Ext.app ?_ _)) only [go_sem]; with_reducible rfl))))
  refine aops_call_to (containsFunc_c hx signalErr1_c hb) ?_
  rw [any_not]
  ((repeat (first | refine ya (by (with_reducible constructor) <;> first | rfl | decide) ?_ | apply yb | refine yc rfl ?_ | ((first | apply yd | apply ye); simp (disch := first | exact List.all_nil | omega | (simp only [go_sem]; done) | (simp only [ln, List.length_map]; omega) | (repeat' first | assumption | exact Ext.refl _ | refine Ext.app ?_ _)) only [go_sem, hx.len, hx.idx, hx.load]; with_reducible rfl))))
  refine aops_call_to (unless_c _ _) ?_
  ((repeat (first | refine ya (by (with_reducible constructor) <;> first | rfl | decide) ?_ | apply yb | refine yc rfl ?_ | ((first | apply yd | apply ye); simp (disch := first | exact List.all_nil | omega | (simp only [go_sem]; done) | (simp only [ln, List.length_map]; omega) | (repeat' first | assumption | exact Ext.refl _ | refine Ext.app ?_ _)) only [go_sem]; with_reducible rfl))))
  refine aops_call_to (unless_c _ _) ?_
  ((repeat (first | refine ya (by (with_reducible constructor) <;> first | rfl | decide) ?_ | apply yb | refine yc rfl ?_ | ((first | apply yd | apply ye); simp (disch := first | exact List.all_nil | omega | (simp only [go_sem]; done) | (simp only [ln, List.length_map]; omega) | (repeat' first | assumption | exact Ext.refl _ | refine Ext.app ?_ _)) only [go_sem]; with_reducible rfl))))
  refine aops_call_to (first_c (l := [_, _]) (Ints.last (l := [_, _]) 2) (by simp)) ?_
  ((repeat (first | refine ya (by (with_reducible constructor) <;> first | rfl | decide) ?_ | apply yb | refine yc rfl ?_ | ((first | apply yd | apply ye); simp (disch := first | exact List.all_nil | omega | (simp only [go_sem]; done) | (simp only [ln, List.length_map]; omega) | (repeat' first | assumption | exact Ext.refl _ | refine Ext.app ?_ _)) only [go_sem]; with_reducible rfl))))
  refine fin_1 ⟨?_, (Ext.refl _).app _⟩
  unfold signalErrL
  by_cases h1 : 400 < x.length
  · have : ¬ (x.length : Int) ≤ 400 := by omega
    simp [firstErr, h1, this]
  · have : (x.length : Int) ≤ 400 := by omega
    cases hq : x.all (fun n => decide (-32767 ≤ n ∧ n ≤ 32767)) <;> simp [firstErr, h1, this]
theorem refSignalErr_c {x : List Int} {v : Value} (hx : Ints H x v) (hb : x.length ≤ 1000000000) : ACall Go.Proofs.Tryd.prog 28 [v] H fun v H' => v = .int .i64 (signalErrL x) ∧ H' = H := by
  (refine a28 ?_; simp only [n28, List.replicate, List.length_cons, List.length_nil, List.cons_append, List.nil_append]; first | refine q1 ?_ | refine q2 ?_ | refine q6 ?_ | refine q7 ?_ | refine qh rfl ?_ | skip)
  ((repeat (first | refine ya (by (with_reducible constructor) <;> first | rfl | decide) ?_ | apply yb | refine yc rfl ?_ | ((first | apply yd | apply ye); simp (disch := first | exact List.all_nil | omega | (simp only [go_sem]; done) | (simp only [ln, List.length_map]; omega) | (repeat' first | assumption | exact Ext.refl _ | refine Ext.app ?_ _)) only [go_sem, hx.len, hx.idx, hx.load]; with_reducible rfl))))
  refine cond_p rfl (fun hlt => ?_) (fun hge => ?_)
  · ((repeat (first | refine ya (by (with_reducible constructor) <;> first | rfl | decide) ?_ | apply yb | refine yc rfl ?_ | ((first | apply yd | apply ye); simp (disch := first | exact List.all_nil | omega | (simp only [go_sem]; done) | (simp only [ln, List.length_map]; omega) | (repeat' first | assumption | exact Ext.refl _ | refine Ext.app ?_ _)) only [go_sem]; with_reducible rfl))))
    refine fin_1 ⟨?_, rfl⟩
    unfold signalErrL
    rw [if_pos (by omega)]; rfl
  · ((repeat (first | refine ya (by (with_reducible constructor) <;> first | rfl | decide) ?_ | apply yb | refine yc rfl ?_ | ((first | apply yd | apply ye); simp (disch := first | exact List.all_nil | omega | (simp only [go_sem]; done) | (simp only [ln, List.length_map]; omega) | (repeat' first | assumption | exact Ext.refl _ | refine Ext.app ?_ _)) only [go_sem]; with_reducible rfl))))
    refine awp_loop_n [true, false, false, true, false, false, false, false, false, false, false, false, false, false, false, false, false, false, false] x.length (fun i e H' => H' = H ∧ e = [v, junk, junk, .int .i64 i, junk, junk, junk, junk, junk, junk, junk, junk, junk, junk, junk, junk, junk, junk, junk] ∧ ∀ j < i, decide (-32767 ≤ x.getD j 0 ∧ x.getD j 0 ≤ 32767) = true) ?_ ?_
    · exact ⟨rfl, rfl, by omega⟩
    · rintro i e H' hi ⟨rfl, rfl, hp⟩
      ((repeat (first | refine ya (by (with_reducible constructor) <;> first | rfl | decide) ?_ | apply yb | refine yc rfl ?_ | ((first | apply yd | apply ye); simp (disch := first | exact List.all_nil | omega | (simp only [go_sem]; done) | (simp only [ln, List.length_map]; omega) | (repeat' first | assumption | exact Ext.refl _ | refine Ext.app ?_ _)) only [go_sem, hx.len, hx.idx, hx.load]; with_reducible rfl))))
      refine cond_p rfl (fun hlt => ?_) (fun hge => ?_)
      · ((repeat (first | refine ya (by (with_reducible constructor) <;> first | rfl | decide) ?_ | apply yb | refine yc rfl ?_ | ((first | apply yd | apply ye); simp (disch := first | exact List.all_nil | omega | (simp only [go_sem]; done) | (simp only [ln, List.length_map]; omega) | (repeat' first | assumption | exact Ext.refl _ | refine Ext.app ?_ _)) only [go_sem, hx.len, hx.idx, hx.load]; with_reducible rfl))))
        refine aops_call_to (bwithin_c _ _ _) ?_
        ((repeat (first | refine ya (by (with_reducible constructor) <;> first | rfl | decide) ?_ | apply yb | refine yc rfl ?_ | ((first | apply yd | apply ye); simp (disch := first | exact List.all_nil | omega | (simp only [go_sem]; done) | (simp only [ln, List.length_map]; omega) | (repeat' first | assumption | exact Ext.refl _ | refine Ext.app ?_ _)) only [go_sem]; with_reducible rfl))))
        refine cond_n rfl (fun hne => ?_) (fun heq => ?_)
        · ((repeat (first | refine ya (by (with_reducible constructor) <;> first | rfl | decide) ?_ | apply yb | refine yc rfl ?_ | ((first | apply yd | apply ye); simp (disch := first | exact List.all_nil | omega | (simp only [go_sem]; done) | (simp only [ln, List.length_map]; omega) | (repeat' first | assumption | exact Ext.refl _ | refine Ext.app ?_ _)) only [go_sem]; with_reducible rfl))))
          refine fin_1 ⟨?_, rfl⟩
          have : x.all (fun n => decide (-32767 ≤ n ∧ n ≤ 32767)) = false := all_false (d := 0) (i := i) (by omega) (by simpa using hne)
          unfold signalErrL
          rw [if_neg (by omega), this]; rfl
        · ((repeat (first | refine ya (by (with_reducible constructor) <;> first | rfl | decide) ?_ | apply yb | refine yc rfl ?_ | ((first | apply yd | apply ye); simp (disch := first | exact List.all_nil | omega | (simp only [go_sem]; done) | (simp only [ln, List.length_map]; omega) | (repeat' first | assumption | exact Ext.refl _ | refine Ext.app ?_ _)) only [go_sem]; with_reducible rfl))))
          refine ⟨by omega, rfl, by simp [forget], fun j hj => ?_⟩
          by_cases h : j = i
          · subst h; exact decide_eq_true heq
          · exact hp j (by omega)
      · ((repeat (first | refine ya (by (with_reducible constructor) <;> first | rfl | decide) ?_ | apply yb | refine yc rfl ?_ | ((first | apply yd | apply ye); simp (disch := first | exact List.all_nil | omega | (simp only [go_sem]; done) | (simp only [ln, List.length_map]; omega) | (repeat' first | assumption | exact Ext.refl _ | refine Ext.app ?_ _)) only [go_sem]; with_reducible rfl))))
        refine fin_1 ⟨?_, rfl⟩
        have : x.all (fun n => decide (-32767 ≤ n ∧ n ≤ 32767)) = true := all_true (d := 0) fun j hj => hp j (by omega)
        unfold signalErrL
        rw [if_neg (by omega), this]; rfl
end
end Go.Lq


namespace Go.Lq

def cv (f g : Nat → Int) : Nat → Int
  | 0 => f 0 * g 0
  | n + 1 => f 0 * g (n + 1) + cv (fun k => f (k + 1)) g n

end Go.Lq

namespace Go.Lq

def degErrL (n : Int) : Int := if n = 1 ∨ n = 3 then 0 else 15
theorem degErr_ok {n : Int} (h : degErrL n = 0) : n = 1 ∨ n = 3 := by
  unfold degErrL at h
  split at h
  · assumption
  · cases h
def weightsL (deg f : Int) : List Int :=
  if deg = 1 then [64 - f, f] else [(0 - f) * (f - 64) * (f - 128), 3 * (f + 64) * (f - 64) * (f - 128), -3 * (f + 64) * f * (f - 128), (f + 64) * f * (f - 64)]
def denL (deg : Int) : Int := if deg = 1 then 64 else 1572864
def fromL (deg : Int) : Int := if deg = 1 then 0 else -1
def rdenL (deg : Int) : Int := if deg = 1 then 8192 else 402653184
theorem weights_len (deg f : Int) : (weightsL deg f).length = if deg = 1 then 2 else 4 := by
  unfold weightsL; split <;> rfl
theorem weights_len_le (deg f : Int) : (weightsL deg f).length ≤ 4 := by rw [weights_len]; split <;> omega
theorem weights_bound {deg f : Int} (hd : deg = 1 ∨ deg = 3) (h : 0 ≤ f ∧ f ≤ 63) : ∀ j : Nat, -3121152 ≤ (weightsL deg f).getD j 0 ∧ (weightsL deg f).getD j 0 ≤ 3121152 := by
  have m1 := mul_abs (x := 0 - f) (y := f - 64) (a := 63) (b := 64) ⟨by omega, by omega⟩ ⟨by omega, by omega⟩
  have m2 := mul_abs (x := (0 - f) * (f - 64)) (y := f - 128) (a := 4032) (b := 128) ⟨by omega, by omega⟩ ⟨by omega, by omega⟩
  have m3 := mul_abs (x := 3 * (f + 64)) (y := f - 64) (a := 381) (b := 64) ⟨by omega, by omega⟩ ⟨by omega, by omega⟩
  have m4 := mul_abs (x := 3 * (f + 64) * (f - 64)) (y := f - 128) (a := 24384) (b := 128) ⟨by omega, by omega⟩ ⟨by omega, by omega⟩
  have m5 := mul_abs (x := -3 * (f + 64)) (y := f) (a := 381) (b := 63) ⟨by omega, by omega⟩ ⟨by omega, by omega⟩
  have m6 := mul_abs (x := -3 * (f + 64) * f) (y := f - 128) (a := 24003) (b := 128) ⟨by omega, by omega⟩ ⟨by omega, by omega⟩
  have m7 := mul_abs (x := f + 64) (y := f) (a := 127) (b := 63) ⟨by omega, by omega⟩ ⟨by omega, by omega⟩
  have m8 := mul_abs (x := (f + 64) * f) (y := f - 64) (a := 8001) (b := 64) ⟨by omega, by omega⟩ ⟨by omega, by omega⟩
  intro j
  rcases hd with rfl | rfl
  · match j with
    | 0 => simp [weightsL]; omega
    | 1 => simp [weightsL]; omega
    | j + 2 => simp [weightsL]
  · match j with
    | 0 => show -3121152 ≤ (0 - f) * (f - 64) * (f - 128) ∧ (0 - f) * (f - 64) * (f - 128) ≤ 3121152; omega
    | 1 => show -3121152 ≤ 3 * (f + 64) * (f - 64) * (f - 128) ∧ 3 * (f + 64) * (f - 64) * (f - 128) ≤ 3121152; omega
    | 2 => show -3121152 ≤ -3 * (f + 64) * f * (f - 128) ∧ -3 * (f + 64) * f * (f - 128) ≤ 3121152; omega
    | 3 => show -3121152 ≤ (f + 64) * f * (f - 64) ∧ (f + 64) * f * (f - 64) ≤ 3121152; omega
    | j + 4 => simp [weightsL]
def clampI (n : Nat) (j : Int) : Nat := (min (max j 0) ((n : Int) - 1)).toNat
theorem clampI_lt {n : Nat} {j : Int} (h : 0 < n) : clampI n j < n := by unfold clampI; omega
def valTo (w x : List Int) (at0 : Int) : Nat → Int
  | 0 => 0
  | i + 1 => valTo w x at0 i + w.getD i 0 * x.getD (clampI x.length (at0 + i)) 0
def valueL (deg : Int) (x : List Int) (q : Int) : Int := valTo (weightsL deg (q % 64)) x (q / 64 + fromL deg) (weightsL deg (q % 64)).length
theorem valTo_bound {w x : List Int} {at0 : Int} {a b : Nat} (hw : ∀ j : Nat, -(a : Int) ≤ w.getD j 0 ∧ w.getD j 0 ≤ a) (hx : ∀ j : Nat, -(b : Int) ≤ x.getD j 0 ∧ x.getD j 0 ≤ b) : ∀ i : Nat, -((a * b * i : Nat) : Int) ≤ valTo w x at0 i ∧ valTo w x at0 i ≤ ((a * b * i : Nat) : Int)
  | 0 => by simp [valTo]
  | i + 1 => by
    have ih := valTo_bound (at0 := at0) hw hx i
    have := mul_abs (hw i) (hx (clampI x.length (at0 + i)))
    unfold valTo
    rw [Nat.mul_add, Nat.mul_one]
    generalize a * b * i = u at *
    generalize a * b = t at *
    omega
theorem value_bound {deg : Int} {x : List Int} {q : Int} (hd : deg = 1 ∨ deg = 3) (hx : ∀ j : Nat, -32767 ≤ x.getD j 0 ∧ x.getD j 0 ≤ 32767) (hq : 0 ≤ q) : -500000000000 ≤ valueL deg x q ∧ valueL deg x q ≤ 500000000000 := by
  have h1 := valTo_bound (a := 3121152) (b := 32767) (at0 := q / 64 + fromL deg) (weights_bound hd (show 0 ≤ q % 64 ∧ q % 64 ≤ 63 by omega)) hx (weightsL deg (q % 64)).length
  have h2 := weights_len_le deg (q % 64)
  unfold valueL
  have h3 := Nat.mul_le_mul_left (3121152 * 32767) h2
  omega
end Go.Lq


namespace Go.Lq
open Go
open Go.Proofs

def nilR (v : Value) (H : AHeap) : Option (Value × AHeap) := match v with | .pointer (some a) => some (.pointer (some a), H) | .func (.func f) xs ys => some (.func (.func f) xs ys, H) | _ => none
theorem r_nilCheck {ρ : Operand → Value} {H : AHeap} {x : Operand} : ropRun (.nilCheck x) ρ H = nilR (ρ x) H := rfl
theorem nil_ptr {a : Addr} {H : AHeap} : nilR (.pointer (some a)) H = some (.pointer (some a), H) := rfl
attribute [go_sem] r_nilCheck nil_ptr

theorem n3_at {G : AHeap} {id : Nat} {a b c : Value} (h : G[id]? = some (.cells true 0 [a, b, c])) : loadNR 3 (.pointer (some ⟨id, 0, none⟩)) G = some (.agg ⟨[a, b, c]⟩, G) := loadN_at h (by simp)
def eqErrL (f s d : Int) : Int := if (-1000 ≤ f ∧ f ≤ 1000) ∧ (-1000 ≤ s ∧ s ≤ 1000) ∧ (1 ≤ d ∧ d ≤ 1000) then 0 else 2
theorem eqErr_ok {f s d : Int} (h : eqErrL f s d = 0) : (-1000 ≤ f ∧ f ≤ 1000) ∧ (-1000 ≤ s ∧ s ≤ 1000) ∧ (1 ≤ d ∧ d ≤ 1000) := by
  unfold eqErrL at h
  split at h
  · rename_i h1; exact h1
  · cases h
section
variable {H : AHeap}
theorem checkEqualizer_c (f s d : Int) : ACall Go.Proofs.Tryd.prog 72 [.agg ⟨[.int .i64 f, .int .i64 s, .int .i64 d]⟩] H fun w H' => w = .int .i64 (eqErrL f s d) ∧ H' = H := by
  refine ACall.drop (.int _ _) ?_
  (refine a72 ?_; simp only [n72, List.replicate, List.length_cons, List.length_nil, List.cons_append, List.nil_append]; first | refine q1 ?_ | refine q2 ?_ | refine q6 ?_ | refine q7 ?_ | refine qh rfl ?_ | skip)
  have g0 : (H ++ [AObj.cells true 0 [.int .i64 f, .int .i64 s, .int .i64 d]])[H.length]? = some (.cells true 0 [.int .i64 f, .int .i64 s, .int .i64 d]) := at_new
  have xG : Ext H (H ++ [AObj.cells true 0 [.int .i64 f, .int .i64 s, .int .i64 d]]) := (Ext.refl H).app _
  ((repeat (first | refine ya (by (with_reducible constructor) <;> first | rfl | decide) ?_ | apply yb | refine yc rfl ?_ | ((first | apply yd | apply ye); simp (disch := first | exact List.all_nil | omega | (simp only [go_sem]; done) | (simp only [ln, List.length_map]; omega) | (repeat' first | assumption | exact Ext.refl _ | refine Ext.app ?_ _)) only [go_sem, box_3, load_at g0]; with_reducible rfl))))
  generalize (H ++ [AObj.cells true 0 [.int .i64 f, .int .i64 s, .int .i64 d]] : AHeap) = G at g0 xG
  refine aops_call_to (isWeight_c _) ?_
  by_cases h1 : -1000 ≤ f ∧ f ≤ 1000
  rotate_left 1
  · ((repeat (first | refine ya (by (with_reducible constructor) <;> first | rfl | decide) ?_ | apply yb | refine yc rfl ?_ | ((first | apply yd | apply ye); simp (disch := first | exact List.all_nil | omega | (simp only [go_sem]; done) | (simp only [ln, List.length_map]; omega) | (repeat' first | assumption | exact Ext.refl _ | refine Ext.app ?_ _)) only [go_sem, load_at g0, dec_f h1]; with_reducible rfl))))
    refine aops_call_to (unless_c _ _) ?_
    ((repeat (first | refine ya (by (with_reducible constructor) <;> first | rfl | decide) ?_ | apply yb | refine yc rfl ?_ | ((first | apply yd | apply ye); simp (disch := first | exact List.all_nil | omega | (simp only [go_sem]; done) | (simp only [ln, List.length_map]; omega) | (repeat' first | assumption | exact Ext.refl _ | refine Ext.app ?_ _)) only [go_sem]; with_reducible rfl))))
    exact fin_1 ⟨by unfold eqErrL; rw [if_neg (fun h => h1 h.1)]; rfl, xG⟩
  ((repeat (first | refine ya (by (with_reducible constructor) <;> first | rfl | decide) ?_ | apply yb | refine yc rfl ?_ | ((first | apply yd | apply ye); simp (disch := first | exact List.all_nil | omega | (simp only [go_sem]; done) | (simp only [ln, List.length_map]; omega) | (repeat' first | assumption | exact Ext.refl _ | refine Ext.app ?_ _)) only [go_sem, load_at g0, dec_t h1]; with_reducible rfl))))
  refine aops_call_to (isWeight_c _) ?_
  by_cases h2 : -1000 ≤ s ∧ s ≤ 1000
  rotate_left 1
  · ((repeat (first | refine ya (by (with_reducible constructor) <;> first | rfl | decide) ?_ | apply yb | refine yc rfl ?_ | ((first | apply yd | apply ye); simp (disch := first | exact List.all_nil | omega | (simp only [go_sem]; done) | (simp only [ln, List.length_map]; omega) | (repeat' first | assumption | exact Ext.refl _ | refine Ext.app ?_ _)) only [go_sem, load_at g0, dec_f h2]; with_reducible rfl))))
    refine aops_call_to (unless_c _ _) ?_
    ((repeat (first | refine ya (by (with_reducible constructor) <;> first | rfl | decide) ?_ | apply yb | refine yc rfl ?_ | ((first | apply yd | apply ye); simp (disch := first | exact List.all_nil | omega | (simp only [go_sem]; done) | (simp only [ln, List.length_map]; omega) | (repeat' first | assumption | exact Ext.refl _ | refine Ext.app ?_ _)) only [go_sem]; with_reducible rfl))))
    exact fin_1 ⟨by unfold eqErrL; rw [if_neg (fun h => h2 h.2.1)]; rfl, xG⟩
  ((repeat (first | refine ya (by (with_reducible constructor) <;> first | rfl | decide) ?_ | apply yb | refine yc rfl ?_ | ((first | apply yd | apply ye); simp (disch := first | exact List.all_nil | omega | (simp only [go_sem]; done) | (simp only [ln, List.length_map]; omega) | (repeat' first | assumption | exact Ext.refl _ | refine Ext.app ?_ _)) only [go_sem, load_at g0, dec_t h2]; with_reducible rfl))))
  refine aops_call_to (isDen_c _) ?_
  ((repeat (first | refine ya (by (with_reducible constructor) <;> first | rfl | decide) ?_ | apply yb | refine yc rfl ?_ | ((first | apply yd | apply ye); simp (disch := first | exact List.all_nil | omega | (simp only [go_sem]; done) | (simp only [ln, List.length_map]; omega) | (repeat' first | assumption | exact Ext.refl _ | refine Ext.app ?_ _)) only [go_sem]; with_reducible rfl))))
  refine aops_call_to (unless_c _ _) ?_
  by_cases h3 : 1 ≤ d ∧ d ≤ 1000
  · ((repeat (first | refine ya (by (with_reducible constructor) <;> first | rfl | decide) ?_ | apply yb | refine yc rfl ?_ | ((first | apply yd | apply ye); simp (disch := first | exact List.all_nil | omega | (simp only [go_sem]; done) | (simp only [ln, List.length_map]; omega) | (repeat' first | assumption | exact Ext.refl _ | refine Ext.app ?_ _)) only [go_sem, dec_t h3]; with_reducible rfl))))
    exact fin_1 ⟨by unfold eqErrL; rw [if_pos ⟨h1, h2, h3⟩]; rfl, xG⟩
  · ((repeat (first | refine ya (by (with_reducible constructor) <;> first | rfl | decide) ?_ | apply yb | refine yc rfl ?_ | ((first | apply yd | apply ye); simp (disch := first | exact List.all_nil | omega | (simp only [go_sem]; done) | (simp only [ln, List.length_map]; omega) | (repeat' first | assumption | exact Ext.refl _ | refine Ext.app ?_ _)) only [go_sem, dec_f h3]; with_reducible rfl))))
    exact fin_1 ⟨by unfold eqErrL; rw [if_neg (fun h => h3 h.2.2)]; rfl, xG⟩
end
end Go.Lq




namespace Go.Lq
open Go
open Go.Proofs

def strW (f s : Int) : Int := w64 (w64 (f * sgI f) + w64 (s * sgI s))
def ampErrL (a : Int) : Int := if 0 ≤ a ∧ a ≤ 32767 then 0 else 2
def holdsW (f s d amp b : Int) : Bool := decide (w64 (amp - ((0 - (szI f + szI s)) * b) / d) ≤ b)
theorem sz_bound {n : Int} (h : -1000 ≤ n ∧ n ≤ 1000) : 0 ≤ szI n ∧ szI n ≤ 1000 := by unfold szI; omega
theorem strW_ok {f s d : Int} (h : eqErrL f s d = 0) : strW f s = szI f + szI s := by
  obtain ⟨h1, h2, _⟩ := eqErr_ok h
  have k1 := sz_bound h1
  have k2 := sz_bound h2
  unfold strW
  rw [mul_sg, mul_sg, w64_id (n := szI f) (by omega) (by omega), w64_id (n := szI s) (by omega) (by omega), w64_id (by omega) (by omega)]

section
variable {H : AHeap}
theorem sign_c (n : Int) : ACall Go.Proofs.Tryd.prog 129 [.int .i64 n] H fun v H' => v = .int .i64 (sgI n) ∧ H' = H := by
  (refine a129 ?_; simp only [n129, List.replicate, List.length_cons, List.length_nil, List.cons_append, List.nil_append]; first | refine q1 ?_ | refine q2 ?_ | refine q6 ?_ | refine q7 ?_ | refine qh rfl ?_ | skip)
  ((repeat (first | refine ya (by (with_reducible constructor) <;> first | rfl | decide) ?_ | apply yb | refine yc rfl ?_ | ((first | apply yd | apply ye); simp (disch := first | exact List.all_nil | omega | (simp only [go_sem]; done) | (simp only [ln, List.length_map]; omega) | (repeat' first | assumption | exact Ext.refl _ | refine Ext.app ?_ _)) only [go_sem]; with_reducible rfl))))
  refine cond_p rfl (fun h1 => ?_) (fun h1 => ?_)
  · ((repeat (first | refine ya (by (with_reducible constructor) <;> first | rfl | decide) ?_ | apply yb | refine yc rfl ?_ | ((first | apply yd | apply ye); simp (disch := first | exact List.all_nil | omega | (simp only [go_sem]; done) | (simp only [ln, List.length_map]; omega) | (repeat' first | assumption | exact Ext.refl _ | refine Ext.app ?_ _)) only [go_sem]; with_reducible rfl))))
    exact fin_1 ⟨by unfold sgI; rw [if_pos h1]; rfl, rfl⟩
  · ((repeat (first | refine ya (by (with_reducible constructor) <;> first | rfl | decide) ?_ | apply yb | refine yc rfl ?_ | ((first | apply yd | apply ye); simp (disch := first | exact List.all_nil | omega | (simp only [go_sem]; done) | (simp only [ln, List.length_map]; omega) | (repeat' first | assumption | exact Ext.refl _ | refine Ext.app ?_ _)) only [go_sem]; with_reducible rfl))))
    refine cond_p rfl (fun h2 => ?_) (fun h2 => ?_)
    · ((repeat (first | refine ya (by (with_reducible constructor) <;> first | rfl | decide) ?_ | apply yb | refine yc rfl ?_ | ((first | apply yd | apply ye); simp (disch := first | exact List.all_nil | omega | (simp only [go_sem]; done) | (simp only [ln, List.length_map]; omega) | (repeat' first | assumption | exact Ext.refl _ | refine Ext.app ?_ _)) only [go_sem]; with_reducible rfl))))
      exact fin_1 ⟨by unfold sgI; rw [if_neg h1, if_pos (by omega)]; rfl, rfl⟩
    · ((repeat (first | refine ya (by (with_reducible constructor) <;> first | rfl | decide) ?_ | apply yb | refine yc rfl ?_ | ((first | apply yd | apply ye); simp (disch := first | exact List.all_nil | omega | (simp only [go_sem]; done) | (simp only [ln, List.length_map]; omega) | (repeat' first | assumption | exact Ext.refl _ | refine Ext.app ?_ _)) only [go_sem]; with_reducible rfl))))
      exact fin_1 ⟨by unfold sgI; rw [if_neg h1, if_neg (by omega)]; rfl, rfl⟩
theorem strength_c (f s d : Int) : ACall Go.Proofs.Tryd.prog 101 [.agg ⟨[.int .i64 f, .int .i64 s, .int .i64 d]⟩] H fun w H' => w = .int .i64 (strW f s) ∧ H' = H := by
  refine ACall.drop (.int _ _) ?_
  (refine a101 ?_; simp only [n101, List.replicate, List.length_cons, List.length_nil, List.cons_append, List.nil_append]; first | refine q1 ?_ | refine q2 ?_ | refine q6 ?_ | refine q7 ?_ | refine qh rfl ?_ | skip)
  have g0 : (H ++ [AObj.cells true 0 [.int .i64 f, .int .i64 s, .int .i64 d]])[H.length]? = some (.cells true 0 [.int .i64 f, .int .i64 s, .int .i64 d]) := at_new
  have xG : Ext H (H ++ [AObj.cells true 0 [.int .i64 f, .int .i64 s, .int .i64 d]]) := (Ext.refl H).app _
  ((repeat (first | refine ya (by (with_reducible constructor) <;> first | rfl | decide) ?_ | apply yb | refine yc rfl ?_ | ((first | apply yd | apply ye); simp (disch := first | exact List.all_nil | omega | (simp only [go_sem]; done) | (simp only [ln, List.length_map]; omega) | (repeat' first | assumption | exact Ext.refl _ | refine Ext.app ?_ _)) only [go_sem, box_3, load_at g0]; with_reducible rfl))))
  generalize (H ++ [AObj.cells true 0 [.int .i64 f, .int .i64 s, .int .i64 d]] : AHeap) = G at g0 xG
  refine adraw_call (N := []) (firstD (sign_c _)) ?_
  rw [List.append_nil]
  ((repeat (first | refine ya (by (with_reducible constructor) <;> first | rfl | decide) ?_ | apply yb | refine yc rfl ?_ | ((first | apply yd | apply ye); simp (disch := first | exact List.all_nil | omega | (simp only [go_sem]; done) | (simp only [ln, List.length_map]; omega) | (repeat' first | assumption | exact Ext.refl _ | refine Ext.app ?_ _)) only [go_sem, load_at g0]; with_reducible rfl))))
  refine adraw_call (N := []) (firstD (sign_c _)) ?_
  rw [List.append_nil]
  ((repeat (first | refine ya (by (with_reducible constructor) <;> first | rfl | decide) ?_ | apply yb | refine yc rfl ?_ | ((first | apply yd | apply ye); simp (disch := first | exact List.all_nil | omega | (simp only [go_sem]; done) | (simp only [ln, List.length_map]; omega) | (repeat' first | assumption | exact Ext.refl _ | refine Ext.app ?_ _)) only [go_sem]; with_reducible rfl))))
  exact fin_1 ⟨rfl, xG⟩
theorem holds_c {f s d : Int} (amp b : Int) (he : eqErrL f s d = 0) (hb : 0 ≤ b ∧ b ≤ 1000000000000000) : ACall Go.Proofs.Tryd.prog 102 [.agg ⟨[.int .i64 f, .int .i64 s, .int .i64 d]⟩, .int .i64 amp, .int .i64 b] H fun w H' => w = .bool (holdsW f s d amp b) ∧ H' = H := by
  refine ACall.drop (.bool _) ?_
  (refine a102 ?_; simp only [n102, List.replicate, List.length_cons, List.length_nil, List.cons_append, List.nil_append]; first | refine q1 ?_ | refine q2 ?_ | refine q6 ?_ | refine q7 ?_ | refine qh rfl ?_ | skip)
  have g0 : (H ++ [AObj.cells true 0 [.int .i64 f, .int .i64 s, .int .i64 d]])[H.length]? = some (.cells true 0 [.int .i64 f, .int .i64 s, .int .i64 d]) := at_new
  have xG : Ext H (H ++ [AObj.cells true 0 [.int .i64 f, .int .i64 s, .int .i64 d]]) := (Ext.refl H).app _
  obtain ⟨h1, h2, h3⟩ := eqErr_ok he
  have k1 := sz_bound h1
  have k2 := sz_bound h2
  ((repeat (first | refine ya (by (with_reducible constructor) <;> first | rfl | decide) ?_ | apply yb | refine yc rfl ?_ | ((first | apply yd | apply ye); simp (disch := first | exact List.all_nil | omega | (simp only [go_sem]; done) | (simp only [ln, List.length_map]; omega) | (repeat' first | assumption | exact Ext.refl _ | refine Ext.app ?_ _)) only [go_sem, box_3, n3_at g0, load_at g0]; with_reducible rfl))))
  generalize (H ++ [AObj.cells true 0 [.int .i64 f, .int .i64 s, .int .i64 d]] : AHeap) = G at g0 xG
  refine adraw_call (N := []) (firstD (strength_c f s d)) ?_
  rw [List.append_nil, strW_ok he]
  have m1 := mul_abs (x := 0 - (szI f + szI s)) (y := b) (a := 2000) (b := 1000000000000000) ⟨by omega, by omega⟩ ⟨by omega, by omega⟩
  have k3 : 0 ≤ szI f + szI s ∧ szI f + szI s ≤ 2000 := by omega
  unfold holdsW
  generalize szI f + szI s = S at *
  ((repeat (first | refine ya (by (with_reducible constructor) <;> first | rfl | decide) ?_ | apply yb | refine yc rfl ?_ | ((first | apply yd | apply ye); simp (disch := first | exact List.all_nil | omega | (simp only [go_sem]; done) | (simp only [ln, List.length_map]; omega) | (repeat' first | assumption | exact Ext.refl _ | refine Ext.app ?_ _)) only [go_sem, load_at g0]; with_reducible rfl))))
  refine adraw_call (N := []) (firstD (rfloor_c _ _ (by omega) (by omega))) ?_
  rw [List.append_nil]
  ((repeat (first | refine ya (by (with_reducible constructor) <;> first | rfl | decide) ?_ | apply yb | refine yc rfl ?_ | ((first | apply yd | apply ye); simp (disch := first | exact List.all_nil | omega | (simp only [go_sem]; done) | (simp only [ln, List.length_map]; omega) | (repeat' first | assumption | exact Ext.refl _ | refine Ext.app ?_ _)) only [go_sem]; with_reducible rfl))))
  exact fin_1 ⟨rfl, xG⟩
theorem amplitudeErr_c (n : Int) : ACall Go.Proofs.Tryd.prog 100 [.int .i64 n] H fun v H' => v = .int .i64 (ampErrL n) ∧ H' = H := by
  (refine a100 ?_; simp only [n100, List.replicate, List.length_cons, List.length_nil, List.cons_append, List.nil_append]; first | refine q1 ?_ | refine q2 ?_ | refine q6 ?_ | refine q7 ?_ | refine qh rfl ?_ | skip)
  ((repeat (first | refine ya (by (with_reducible constructor) <;> first | rfl | decide) ?_ | apply yb | refine yc rfl ?_ | ((first | apply yd | apply ye); simp (disch := first | exact List.all_nil | omega | (simp only [go_sem]; done) | (simp only [ln, List.length_map]; omega) | (repeat' first | assumption | exact Ext.refl _ | refine Ext.app ?_ _)) only [go_sem]; with_reducible rfl))))
  refine aops_call_to (within_c _ _ _) ?_
  ((repeat (first | refine ya (by (with_reducible constructor) <;> first | rfl | decide) ?_ | apply yb | refine yc rfl ?_ | ((first | apply yd | apply ye); simp (disch := first | exact List.all_nil | omega | (simp only [go_sem]; done) | (simp only [ln, List.length_map]; omega) | (repeat' first | assumption | exact Ext.refl _ | refine Ext.app ?_ _)) only [go_sem]; with_reducible rfl))))
  refine aops_call_to (unless_c _ _) ?_
  ((repeat (first | refine ya (by (with_reducible constructor) <;> first | rfl | decide) ?_ | apply yb | refine yc rfl ?_ | ((first | apply yd | apply ye); simp (disch := first | exact List.all_nil | omega | (simp only [go_sem]; done) | (simp only [ln, List.length_map]; omega) | (repeat' first | assumption | exact Ext.refl _ | refine Ext.app ?_ _)) only [go_sem]; with_reducible rfl))))
  exact fin_1 ⟨by unfold ampErrL; by_cases h : 0 ≤ n ∧ n ≤ 32767 <;> simp [h], rfl⟩
theorem holdsW_iff {f s d amp b : Int} (he : eqErrL f s d = 0) (ha : 0 ≤ amp ∧ amp ≤ 32767) (hb : 0 ≤ b ∧ b ≤ 1000000000000000) (hs : szI f + szI s < d) : holdsW f s d amp b = decide (stableW (szI f + szI s) d amp ≤ b) := by
  obtain ⟨h1, h2, h3⟩ := eqErr_ok he
  have k1 := sz_bound h1
  have k2 := sz_bound h2
  have k3 : 0 ≤ szI f + szI s ∧ szI f + szI s ≤ 2000 := by omega
  unfold holdsW
  generalize szI f + szI s = S at *
  have m1 := mul_abs (x := 0 - S) (y := b) (a := 2000) (b := 1000000000000000) ⟨by omega, by omega⟩ ⟨by omega, by omega⟩
  have m2 := ediv_bound (n := (0 - S) * b) (b := d) (m := 2000000000000000000) (by omega) ⟨by omega, by omega⟩
  rw [w64_id (by omega) (by omega)]
  have := holds_stable (s := S) (d := d) (amp := amp) (b := b) (by omega) hs
  unfold holdsB at this
  rw [show (0 - S) * b = -(S * b) by rw [Int.zero_sub, Int.neg_mul]]
  exact decide_eq_decide.2 this
def stableErrL (f s d amp : Int) : Int := firstErr [eqErrL f s d, ampErrL amp, (if decide (strW f s < d) = true then 0 else 22)]
def stableL (f s d amp : Int) : Int := if stableErrL f s d amp = 0 then stableW (szI f + szI s) d amp else 0
theorem stableErr_ok {f s d amp : Int} (h : stableErrL f s d amp = 0) : eqErrL f s d = 0 ∧ (0 ≤ amp ∧ amp ≤ 32767) ∧ szI f + szI s < d := by
  unfold stableErrL at h
  by_cases h1 : eqErrL f s d = 0
  · by_cases h2 : ampErrL amp = 0
    · by_cases h3 : strW f s < d
      · refine ⟨h1, ?_, by rw [← strW_ok h1]; exact h3⟩
        unfold ampErrL at h2
        split at h2
        · assumption
        · cases h2
      · simp [firstErr, h1, h2, h3] at h
    · simp [firstErr, h1, h2] at h
  · simp [firstErr, h1] at h
theorem stableBound_c (f s d amp : Int) : ACall Go.Proofs.Tryd.prog 41 [.agg ⟨[.int .i64 f, .int .i64 s, .int .i64 d]⟩, .int .i64 amp] H fun w H' => w = .tuple #[.int .i64 (stableL f s d amp), .int .i64 (stableErrL f s d amp)] ∧ H' = H := by
  refine ACall.drop (closed_two _ _) ?_
  (refine a41 ?_; simp only [n41, List.replicate, List.length_cons, List.length_nil, List.cons_append, List.nil_append]; first | refine q1 ?_ | refine q2 ?_ | refine q6 ?_ | refine q7 ?_ | refine qh rfl ?_ | skip)
  have g0 : (H ++ [AObj.cells true 0 [.int .i64 f, .int .i64 s, .int .i64 d]])[H.length]? = some (.cells true 0 [.int .i64 f, .int .i64 s, .int .i64 d]) := at_new
  have xG : Ext H (H ++ [AObj.cells true 0 [.int .i64 f, .int .i64 s, .int .i64 d]]) := (Ext.refl H).app _
  ((repeat (first | refine ya (by (with_reducible constructor) <;> first | rfl | decide) ?_ | apply yb | refine yc rfl ?_ | ((first | apply yd | apply ye); simp (disch := first | exact List.all_nil | omega | (simp only [go_sem]; done) | (simp only [ln, List.length_map]; omega) | (repeat' first | assumption | exact Ext.refl _ | refine Ext.app ?_ _)) only [go_sem, box_3, n3_at g0, load_at g0]; with_reducible rfl))))
  generalize (H ++ [AObj.cells true 0 [.int .i64 f, .int .i64 s, .int .i64 d]] : AHeap) = G at g0 xG
  refine adraw_call (N := []) (firstD (checkEqualizer_c f s d)) ?_
  rw [List.append_nil]
  ((repeat (first | refine ya (by (with_reducible constructor) <;> first | rfl | decide) ?_ | apply yb | refine yc rfl ?_ | ((first | apply yd | apply ye); simp (disch := first | exact List.all_nil | omega | (simp only [go_sem]; done) | (simp only [ln, List.length_map]; omega) | (repeat' first | assumption | exact Ext.refl _ | refine Ext.app ?_ _)) only [go_sem]; with_reducible rfl))))
  refine adraw_call (N := []) (firstD (amplitudeErr_c _)) ?_
  rw [List.append_nil]
  ((repeat (first | refine ya (by (with_reducible constructor) <;> first | rfl | decide) ?_ | apply yb | refine yc rfl ?_ | ((first | apply yd | apply ye); simp (disch := first | exact List.all_nil | omega | (simp only [go_sem]; done) | (simp only [ln, List.length_map]; omega) | (repeat' first | assumption | exact Ext.refl _ | refine Ext.app ?_ _)) only [go_sem, n3_at g0]; with_reducible rfl))))
  refine adraw_call (N := []) (firstD (strength_c f s d)) ?_
  rw [List.append_nil]
  ((repeat (first | refine ya (by (with_reducible constructor) <;> first | rfl | decide) ?_ | apply yb | refine yc rfl ?_ | ((first | apply yd | apply ye); simp (disch := first | exact List.all_nil | omega | (simp only [go_sem]; done) | (simp only [ln, List.length_map]; omega) | (repeat' first | assumption | exact Ext.refl _ | refine Ext.app ?_ _)) only [go_sem, load_at g0]; with_reducible rfl))))
  refine adraw_call (N := []) (firstD (unless_c _ _)) ?_
  rw [List.append_nil]
  ((repeat (first | refine ya (by (with_reducible constructor) <;> first | rfl | decide) ?_ | apply yb | refine yc rfl ?_ | ((first | apply yd | apply ye); simp (disch := first | exact List.all_nil | omega | (simp only [go_sem]; done) | (simp only [ln, List.length_map]; omega) | (repeat' first | assumption | exact Ext.refl _ | refine Ext.app ?_ _)) only [go_sem]; with_reducible rfl))))
  refine adraw_call (N := []) (firstD (first_c (l := [_, _, _]) (Ints.last (l := [_, _, _]) 3) (by simp))) ?_
  rw [List.append_nil]
  have g1 := (Ext.refl G).app [AObj.cells true 1 [.int .i64 (eqErrL f s d), .int .i64 (ampErrL amp), .int .i64 (if decide (strW f s < d) = true then 0 else 22)]]
  have g2 := g1.cell g0
  have x1 := xG.trans g1
  generalize (G ++ [AObj.cells true 1 [.int .i64 (eqErrL f s d), .int .i64 (ampErrL amp), .int .i64 (if decide (strW f s < d) = true then 0 else 22)]] : AHeap) = G1 at g2 x1
  have hfe : firstErr [eqErrL f s d, ampErrL amp, (if decide (strW f s < d) = true then 0 else 22)] = stableErrL f s d amp := rfl
  rw [hfe]
  by_cases hz : stableErrL f s d amp = 0
  rotate_left 1
  · ((repeat (first | refine ya (by (with_reducible constructor) <;> first | rfl | decide) ?_ | apply yb | refine yc rfl ?_ | ((first | apply yd | apply ye); simp (disch := first | exact List.all_nil | omega | (simp only [go_sem]; done) | (simp only [ln, List.length_map]; omega) | (repeat' first | assumption | exact Ext.refl _ | refine Ext.app ?_ _)) only [go_sem, dec_t (show stableErrL f s d amp ≠ 0 from hz)]; with_reducible rfl))))
    refine cond_t rfl ?_
    ((repeat (first | refine ya (by (with_reducible constructor) <;> first | rfl | decide) ?_ | apply yb | refine yc rfl ?_ | ((first | apply yd | apply ye); simp (disch := first | exact List.all_nil | omega | (simp only [go_sem]; done) | (simp only [ln, List.length_map]; omega) | (repeat' first | assumption | exact Ext.refl _ | refine Ext.app ?_ _)) only [go_sem]; with_reducible rfl))))
    exact fin_2 ⟨by unfold stableL; rw [if_neg hz]; rfl, x1⟩
  ((repeat (first | refine ya (by (with_reducible constructor) <;> first | rfl | decide) ?_ | apply yb | refine yc rfl ?_ | ((first | apply yd | apply ye); simp (disch := first | exact List.all_nil | omega | (simp only [go_sem]; done) | (simp only [ln, List.length_map]; omega) | (repeat' first | assumption | exact Ext.refl _ | refine Ext.app ?_ _)) only [go_sem, hz]; with_reducible rfl))))
  refine cond_f rfl ?_
  obtain ⟨he, ha, hs⟩ := stableErr_ok hz
  obtain ⟨_, _, h3⟩ := eqErr_ok he
  have w0 := stableW_nn (amp := amp) ha.1 (show 0 < d by omega) hs
  have w1 := stableW_le ha h3 hs
  have hv : stableL f s d amp = stableW (szI f + szI s) d amp := by unfold stableL; rw [if_pos hz]
  have hh := fun b hb => holdsW_iff (b := b) he ha hb hs
  rw [hv]
  generalize stableW (szI f + szI s) d amp = W at w0 w1 hh
  ((repeat (first | refine ya (by (with_reducible constructor) <;> first | rfl | decide) ?_ | apply yb | refine yc rfl ?_ | ((first | apply yd | apply ye); simp (disch := first | exact List.all_nil | omega | (simp only [go_sem]; done) | (simp only [ln, List.length_map]; omega) | (repeat' first | assumption | exact Ext.refl _ | refine Ext.app ?_ _)) only [go_sem]; with_reducible rfl))))
  refine awp_loop [false, true, true, false, false, false, false, true, true, false, false, false, false, false, false, false, false, false, false, false, false, false, false, false, false, false, false, false, false, false, false, false, false, false, false, false, false, false, false, false] (fun k e H' => H' = G1 ∧ ∃ lo hi : Int, k = (hi - lo).toNat ∧ -1 ≤ lo ∧ lo < W ∧ W ≤ hi ∧ hi ≤ 1000000000000000 ∧ e = [junk, .int .i64 amp, .pointer (some ⟨H.length, 0, none⟩), junk, junk, junk, junk, .int .i64 lo, .int .i64 hi, junk, junk, junk, junk, junk, junk, junk, junk, junk, junk, junk, junk, junk, junk, junk, junk, junk, junk, junk, junk, junk, junk, junk, junk, junk, junk, junk, junk, junk, junk, junk]) 1000000000000001 ?_ ?_
  · exact ⟨rfl, -1, 1000000000000000, by decide, by omega, by omega, by omega, by omega, rfl⟩
  · rintro k e H' ⟨rfl, lo, hi, rfl, u1, u2, u3, u4, rfl⟩
    have em : 0 ≤ lo + hi → (lo + hi).tdiv 2 = (lo + hi) / 2 := fun h => Int.tdiv_eq_ediv_of_nonneg h
    ((repeat (first | refine ya (by (with_reducible constructor) <;> first | rfl | decide) ?_ | apply yb | refine yc rfl ?_ | ((first | apply yd | apply ye); simp (disch := first | exact List.all_nil | omega | (simp only [go_sem]; done) | (simp only [ln, List.length_map]; omega) | (repeat' first | assumption | exact Ext.refl _ | refine Ext.app ?_ _)) only [go_sem]; with_reducible rfl))))
    refine cond_p rfl (fun hlt => ?_) (fun hge => ?_)
    · rw [Int.add_comm] at hlt
      ((repeat (first | refine ya (by (with_reducible constructor) <;> first | rfl | decide) ?_ | apply yb | refine yc rfl ?_ | ((first | apply yd | apply ye); simp (disch := first | exact List.all_nil | omega | (simp only [go_sem]; done) | (simp only [ln, List.length_map]; omega) | (repeat' first | assumption | exact Ext.refl _ | refine Ext.app ?_ _)) only [go_sem, em (by omega), n3_at g2]; with_reducible rfl))))
      refine aops_call_to (holds_c amp ((lo + hi) / 2) he (by omega)) ?_
      rw [hh _ (by omega)]
      ((repeat (first | refine ya (by (with_reducible constructor) <;> first | rfl | decide) ?_ | apply yb | refine yc rfl ?_ | ((first | apply yd | apply ye); simp (disch := first | exact List.all_nil | omega | (simp only [go_sem]; done) | (simp only [ln, List.length_map]; omega) | (repeat' first | assumption | exact Ext.refl _ | refine Ext.app ?_ _)) only [go_sem]; with_reducible rfl))))
      refine cond_p rfl (fun hy => ?_) (fun hn => ?_)
      · ((repeat (first | refine ya (by (with_reducible constructor) <;> first | rfl | decide) ?_ | apply yb | refine yc rfl ?_ | ((first | apply yd | apply ye); simp (disch := first | exact List.all_nil | omega | (simp only [go_sem]; done) | (simp only [ln, List.length_map]; omega) | (repeat' first | assumption | exact Ext.refl _ | refine Ext.app ?_ _)) only [go_sem]; with_reducible rfl))))
        exact ⟨_, by omega, rfl, lo, (lo + hi) / 2, rfl, by omega, by omega, by omega, by omega, rfl⟩
      · ((repeat (first | refine ya (by (with_reducible constructor) <;> first | rfl | decide) ?_ | apply yb | refine yc rfl ?_ | ((first | apply yd | apply ye); simp (disch := first | exact List.all_nil | omega | (simp only [go_sem]; done) | (simp only [ln, List.length_map]; omega) | (repeat' first | assumption | exact Ext.refl _ | refine Ext.app ?_ _)) only [go_sem]; with_reducible rfl))))
        exact ⟨_, by omega, rfl, (lo + hi) / 2, hi, rfl, by omega, by omega, by omega, by omega, rfl⟩
    · ((repeat (first | refine ya (by (with_reducible constructor) <;> first | rfl | decide) ?_ | apply yb | refine yc rfl ?_ | ((first | apply yd | apply ye); simp (disch := first | exact List.all_nil | omega | (simp only [go_sem]; done) | (simp only [ln, List.length_map]; omega) | (repeat' first | assumption | exact Ext.refl _ | refine Ext.app ?_ _)) only [go_sem]; with_reducible rfl))))
      refine fin_2 ⟨?_, x1⟩
      have : hi = W := by omega
      rw [this, hz]; rfl
end
end Go.Lq

namespace Go.Lq
open Go
open Go.Proofs

attribute [go_sem] Bool.false_bne Bool.true_bne
abbrev fracV (p : Int × Int) : Value := .agg ⟨[.int .i64 p.1, .int .i64 p.2]⟩
theorem closed_frac (p : Int × Int) : Closed (fracV p) := .agg _ (closed_list (l := [.int .i64 p.1, .int .i64 p.2]) fun v hv => by
  simp only [List.mem_cons, List.not_mem_nil, or_false] at hv
  rcases hv with rfl | rfl <;> exact .int _ _)
theorem closed_frac1 (p : Int × Int) (e : Int) : Closed (.tuple #[fracV p, .int .i64 e]) := .tuple _ (closed_list (l := [fracV p, .int .i64 e]) fun v hv => by
  simp only [List.mem_cons, List.not_mem_nil, or_false] at hv
  rcases hv with rfl | rfl
  · exact closed_frac p
  · exact .int _ _)
theorem fill2i {x y : Value} {a b : Int} : fillA [x, y] [(0, 1, .int .i64 a), (1, 1, .int .i64 b)] = some [.int .i64 a, .int .i64 b] := fill2v rfl

section
variable {H : AHeap}
end
end Go.Lq

namespace Go.Lq
open Go
open Go.Proofs

theorem isAtom_nilFunc : isAtom .nilFunc = true := rfl
theorem constOk_nilFunc : constOk .nilFunc = true := rfl
attribute [go_sem] r_idxA isAtom_nilFunc constOk_nilFunc
def wFn (deg : Int) : FuncId := if deg = 1 then 173 else 175
def pFn (deg : Int) : FuncId := if deg = 1 then 174 else 176
abbrev fnV (f : FuncId) : Value := .func (.func f) #[] #[]
def kern (deg : Int) : List Value := [.int .i64 (fromL deg), .int .i64 (denL deg), fnV (wFn deg), fnV (pFn deg), .int .i64 (rdenL deg)]
theorem kern_atoms (deg : Int) : (kern deg).all isAtom = true := rfl
theorem kern_idx {H : AHeap} {deg : Int} (hd : deg = 1 ∨ deg = 3) : idxAR 4 5 (.pointer (some ⟨0, 0, none⟩)) (.int .i64 deg) H = some (.pointer (some ⟨0, (5 * deg).toNat, none⟩), H) := by
  rcases hd with rfl | rfl
  · exact idxA_at (n := 1) (by omega)
  · exact idxA_at (n := 3) (by omega)
theorem kern_load {H : AHeap} (hx : Ext H0 H) {deg : Int} (hd : deg = 1 ∨ deg = 3) : loadNR 5 (.pointer (some ⟨0, (5 * deg).toNat, none⟩)) H = some (.agg ⟨kern deg⟩, H) := by
  have h0 : H[0]? = some (.cells false 5 kernelCells) := by rw [hx.get (by decide)]; rfl
  rcases hd with rfl | rfl
  · exact loadN_at h0 (by decide)
  · exact loadN_at h0 (by decide)
theorem box_kern {H : AHeap} {deg : Int} : boxR (.agg ⟨kern deg⟩) H = some (.pointer (some ⟨H.length, 0, none⟩), H ++ [.cells true 0 (kern deg)]) := box_agg (kern_atoms deg)
theorem store_kern {H : AHeap} {deg : Int} {a b c d e : Value} : storeR 5 (.pointer (some ⟨H.length, 0, none⟩)) (.agg ⟨kern deg⟩) (H ++ [.cells true 0 [a, b, c, d, e]]) = some (undef, H ++ [.cells true 0 (kern deg)]) := store_newN (kern_atoms deg) rfl rfl
section
variable {G : AHeap} {id : Nat} {deg : Int} {e : Nat}
theorem kern_from (h : G[id]? = some (.cells true e (kern deg))) : loadR (.pointer (some ⟨id, 0, none⟩)) G = some (.int .i64 (fromL deg), G) := by rw [load_at h]; rfl
theorem kern_den (h : G[id]? = some (.cells true e (kern deg))) : loadR (.pointer (some ⟨id, 1, none⟩)) G = some (.int .i64 (denL deg), G) := by rw [load_at h]; rfl
theorem kern_w (h : G[id]? = some (.cells true e (kern deg))) : loadR (.pointer (some ⟨id, 2, none⟩)) G = some (fnV (wFn deg), G) := by rw [load_at h]; rfl
theorem kern_all (h : G[id]? = some (.cells true e (kern deg))) : loadNR 5 (.pointer (some ⟨id, 0, none⟩)) G = some (.agg ⟨kern deg⟩, G) := loadN_at h (by show 0 + 5 ≤ 5; omega)
end

section
variable {H : AHeap}
theorem degreeErr_c (n : Int) : ACall Go.Proofs.Tryd.prog 95 [.int .i64 n] H fun v H' => v = .int .i64 (degErrL n) ∧ H' = H := by
  (refine a95 ?_; simp only [n95, List.replicate, List.length_cons, List.length_nil, List.cons_append, List.nil_append]; first | refine q1 ?_ | refine q2 ?_ | refine q6 ?_ | refine q7 ?_ | refine qh rfl ?_ | skip)
  by_cases h1 : n = 1
  · ((repeat (first | refine ya (by (with_reducible constructor) <;> first | rfl | decide) ?_ | apply yb | refine yc rfl ?_ | ((first | apply yd | apply ye); simp (disch := first | exact List.all_nil | omega | (simp only [go_sem]; done) | (simp only [ln, List.length_map]; omega) | (repeat' first | assumption | exact Ext.refl _ | refine Ext.app ?_ _)) only [go_sem, dec_t h1]; with_reducible rfl))))
    refine aops_call_to (unless_c _ _) ?_
    ((repeat (first | refine ya (by (with_reducible constructor) <;> first | rfl | decide) ?_ | apply yb | refine yc rfl ?_ | ((first | apply yd | apply ye); simp (disch := first | exact List.all_nil | omega | (simp only [go_sem]; done) | (simp only [ln, List.length_map]; omega) | (repeat' first | assumption | exact Ext.refl _ | refine Ext.app ?_ _)) only [go_sem]; with_reducible rfl))))
    exact fin_1 ⟨by unfold degErrL; rw [if_pos (.inl h1)]; rfl, rfl⟩
  · ((repeat (first | refine ya (by (with_reducible constructor) <;> first | rfl | decide) ?_ | apply yb | refine yc rfl ?_ | ((first | apply yd | apply ye); simp (disch := first | exact List.all_nil | omega | (simp only [go_sem]; done) | (simp only [ln, List.length_map]; omega) | (repeat' first | assumption | exact Ext.refl _ | refine Ext.app ?_ _)) only [go_sem, dec_f h1]; with_reducible rfl))))
    refine aops_call_to (unless_c _ _) ?_
    ((repeat (first | refine ya (by (with_reducible constructor) <;> first | rfl | decide) ?_ | apply yb | refine yc rfl ?_ | ((first | apply yd | apply ye); simp (disch := first | exact List.all_nil | omega | (simp only [go_sem]; done) | (simp only [ln, List.length_map]; omega) | (repeat' first | assumption | exact Ext.refl _ | refine Ext.app ?_ _)) only [go_sem]; with_reducible rfl))))
    exact fin_1 ⟨by unfold degErrL; by_cases h3 : n = 3 <;> simp [h1, h3], rfl⟩
theorem weights_c {deg f : Int} (hd : deg = 1 ∨ deg = 3) (h : 0 ≤ f ∧ f ≤ 63) : ACall Go.Proofs.Tryd.prog (wFn deg) [.int .i64 f] H fun v H' =>
    v = .slice (some ⟨H.length, 0, none⟩) (weightsL deg f).length (weightsL deg f).length ∧ H' = H ++ [.cells true 1 ((weightsL deg f).map (.int .i64))] := by
  have m1 := mul_abs (x := 0 - f) (y := f - 64) (a := 63) (b := 64) ⟨by omega, by omega⟩ ⟨by omega, by omega⟩
  have m2 := mul_abs (x := (0 - f) * (f - 64)) (y := f - 128) (a := 4032) (b := 128) ⟨by omega, by omega⟩ ⟨by omega, by omega⟩
  have m3 := mul_abs (x := 3 * (f + 64)) (y := f - 64) (a := 381) (b := 64) ⟨by omega, by omega⟩ ⟨by omega, by omega⟩
  have m4 := mul_abs (x := 3 * (f + 64) * (f - 64)) (y := f - 128) (a := 24384) (b := 128) ⟨by omega, by omega⟩ ⟨by omega, by omega⟩
  have m5 := mul_abs (x := -3 * (f + 64)) (y := f) (a := 381) (b := 63) ⟨by omega, by omega⟩ ⟨by omega, by omega⟩
  have m6 := mul_abs (x := -3 * (f + 64) * f) (y := f - 128) (a := 24003) (b := 128) ⟨by omega, by omega⟩ ⟨by omega, by omega⟩
  have m7 := mul_abs (x := f + 64) (y := f) (a := 127) (b := 63) ⟨by omega, by omega⟩ ⟨by omega, by omega⟩
  have m8 := mul_abs (x := (f + 64) * f) (y := f - 64) (a := 8001) (b := 64) ⟨by omega, by omega⟩ ⟨by omega, by omega⟩
  rcases hd with rfl | rfl
  · show ACall _ 173 _ _ _
    (refine a173 ?_; simp only [n173, List.replicate, List.length_cons, List.length_nil, List.cons_append, List.nil_append]; first | refine q1 ?_ | refine q2 ?_ | refine q6 ?_ | refine q7 ?_ | refine qh rfl ?_ | skip)
    ((repeat (first | refine ya (by (with_reducible constructor) <;> first | rfl | decide) ?_ | apply yb | refine yc rfl ?_ | ((first | apply yd | apply ye); simp (disch := first | exact List.all_nil | omega | (simp only [go_sem]; done) | (simp only [ln, List.length_map]; omega) | (repeat' first | assumption | exact Ext.refl _ | refine Ext.app ?_ _)) only [go_sem]; with_reducible rfl))))
    exact fin_1 ⟨rfl, rfl⟩
  · show ACall _ 175 _ _ _
    (refine a175 ?_; simp only [n175, List.replicate, List.length_cons, List.length_nil, List.cons_append, List.nil_append]; first | refine q1 ?_ | refine q2 ?_ | refine q6 ?_ | refine q7 ?_ | refine qh rfl ?_ | skip)
    ((repeat (first | refine ya (by (with_reducible constructor) <;> first | rfl | decide) ?_ | apply yb | refine yc rfl ?_ | ((first | apply yd | apply ye); simp (disch := first | exact List.all_nil | omega | (simp only [go_sem]; done) | (simp only [ln, List.length_map]; omega) | (repeat' first | assumption | exact Ext.refl _ | refine Ext.app ?_ _)) only [go_sem]; with_reducible rfl))))
    exact fin_1 ⟨rfl, rfl⟩
theorem value_c {deg q : Int} {x : List Int} {v : Value} (hd : deg = 1 ∨ deg = 3) (hX : Ints H x v) (hxl : x.length ≤ 400) (hxb : ∀ j : Nat, -32767 ≤ x.getD j 0 ∧ x.getD j 0 ≤ 32767) (hq : 0 ≤ q ∧ q ≤ 64 * ((x.length : Int) - 1)) :
    ACall Go.Proofs.Tryd.prog 92 [.agg ⟨kern deg⟩, v, .int .i64 q] H fun w H' => w = .int .i64 (valueL deg x q) ∧ H' = H := by
  refine ACall.drop (.int _ _) ?_
  have hx0 : 0 < x.length := by omega
  have hm : 0 ≤ q % 64 ∧ q % 64 ≤ 63 := by omega
  have e1 : q.tmod 64 = q % 64 := Int.tmod_eq_emod_of_nonneg hq.1
  have e2 : q.tdiv 64 = q / 64 := Int.tdiv_eq_ediv_of_nonneg hq.1
  have hfr : -1 ≤ fromL deg ∧ fromL deg ≤ 0 := by unfold fromL; split <;> omega
  have wb := weights_bound hd hm
  have wl := weights_len_le deg (q % 64)
  have hfin : valTo (weightsL deg (q % 64)) x (q / 64 + fromL deg) (weightsL deg (q % 64)).length = valueL deg x q := rfl
  (refine a92 ?_; simp only [n92, List.replicate, List.length_cons, List.length_nil, List.cons_append, List.nil_append]; first | refine q1 ?_ | refine q2 ?_ | refine q6 ?_ | refine q7 ?_ | refine qh rfl ?_ | skip)
  (repeat (first | refine ya (by (with_reducible constructor) <;> first | rfl | decide) ?_ | (apply yd; simp (disch := first | exact List.all_nil | omega | (simp only [go_sem]; done) | (simp only [ln, List.length_map]; omega) | (repeat' first | assumption | exact Ext.refl _ | refine Ext.app ?_ _)) only [go_sem, box_kern]; with_reducible rfl)))
  have g0 : (H ++ [AObj.cells true 0 (kern deg)])[H.length]? = some (.cells true 0 (kern deg)) := at_new
  have xG : Ext H (H ++ [AObj.cells true 0 (kern deg)]) := (Ext.refl H).app _
  generalize (H ++ [AObj.cells true 0 (kern deg)] : AHeap) = G at g0 xG
  ((repeat (first | refine ya (by (with_reducible constructor) <;> first | rfl | decide) ?_ | apply yb | refine yc rfl ?_ | ((first | apply yd | apply ye); simp (disch := first | exact List.all_nil | omega | (simp only [go_sem]; done) | (simp only [ln, List.length_map]; omega) | (repeat' first | assumption | exact Ext.refl _ | refine Ext.app ?_ _)) only [go_sem, kern_w g0, a_rem (show (64 : Int) ≠ 0 by decide), e1]; with_reducible rfl))))
  refine aops_call ((weights_c (H := G) hd hm).mono fun u G1 ⟨h1, h2⟩ => ?_)
  have hW : Ints G1 (weightsL deg (q % 64)) u := by rw [h1, h2]; exact Ints.last _
  have x1 : Ext G G1 := ⟨_, h2⟩
  clear h1 h2
  generalize weightsL deg (q % 64) = ws at hW wb wl hfin
  have hX1 := hX.ext (xG.trans x1)
  have g1 := x1.cell g0
  ((repeat (first | refine ya (by (with_reducible constructor) <;> first | rfl | decide) ?_ | apply yb | refine yc rfl ?_ | ((first | apply yd | apply ye); simp (disch := first | exact List.all_nil | omega | (simp only [go_sem]; done) | (simp only [ln, List.length_map]; omega) | (repeat' first | assumption | exact Ext.refl _ | refine Ext.app ?_ _)) only [go_sem, hW.len, hW.idx, hW.load]; with_reducible rfl))))
  refine awp_loop_n [false, true, true, true, false, false, false, true, false, false, false, false, false, false, false, true, true, true, false, false, false, false, false, false, false, false, false, false, false, false, false, false, false, false, false, false, false, false, false, false, false, false, false, false] ws.length (fun i e H' => H' = G1 ∧ e = [junk, v, .int .i64 q, .pointer (some ⟨H.length, 0, none⟩), junk, junk, junk, .int .i64 (valTo ws x (q / 64 + fromL deg) i), junk, junk, junk, junk, junk, junk, junk, u, .int .i64 (ws.length : Nat), .int .i64 i, junk, junk, junk, junk, junk, junk, junk, junk, junk, junk, junk, junk, junk, junk, junk, junk, junk, junk, junk, junk, junk, junk, junk, junk, junk, junk]) ?_ ?_
  · exact ⟨rfl, by simp [forget, valTo]⟩
  rintro i e H' hi ⟨rfl, rfl⟩
  have b1 := valTo_bound (a := 3121152) (b := 32767) (at0 := q / 64 + fromL deg) wb hxb i
  ((repeat (first | refine ya (by (with_reducible constructor) <;> first | rfl | decide) ?_ | apply yb | refine yc rfl ?_ | ((first | apply yd | apply ye); simp (disch := first | exact List.all_nil | omega | (simp only [go_sem]; done) | (simp only [ln, List.length_map]; omega) | (repeat' first | assumption | exact Ext.refl _ | refine Ext.app ?_ _)) only [go_sem]; with_reducible rfl))))
  refine cond_p rfl (fun hlt => ?_) (fun hge => ?_)
  · have hi' : i < ws.length := by omega
    have hcl := clampI_lt (j := q / 64 + fromL deg + i) hx0
    have b2 := mul_abs (x := ws.getD i 0) (y := x.getD (clampI x.length (q / 64 + fromL deg + i)) 0) (a := 3121152) (b := 32767) (wb i) (hxb _)
    have ec : (min (max (q / 64 + fromL deg + i) 0) ((x.length : Int) - 1)).toNat = clampI x.length (q / 64 + fromL deg + i) := rfl
    have ecb : 0 ≤ min (max (q / 64 + fromL deg + i) 0) ((x.length : Int) - 1) ∧ min (max (q / 64 + fromL deg + i) 0) ((x.length : Int) - 1) < x.length := by omega
    ((repeat (first | refine ya (by (with_reducible constructor) <;> first | rfl | decide) ?_ | apply yb | refine yc rfl ?_ | ((first | apply yd | apply ye); simp (disch := first | exact List.all_nil | omega | (simp only [go_sem]; done) | (simp only [ln, List.length_map]; omega) | (repeat' first | assumption | exact Ext.refl _ | refine Ext.app ?_ _)) only [go_sem, hW.len, hW.idx, hW.load, hX1.len, hX1.idx, hX1.load, kern_from g1, e2, ec]; with_reducible rfl))))
    exact ⟨by omega, rfl, by simp [forget, valTo]⟩
  · obtain rfl : i = ws.length := by omega
    rw [hfin]
    ((repeat (first | refine ya (by (with_reducible constructor) <;> first | rfl | decide) ?_ | apply yb | refine yc rfl ?_ | ((first | apply yd | apply ye); simp (disch := first | exact List.all_nil | omega | (simp only [go_sem]; done) | (simp only [ln, List.length_map]; omega) | (repeat' first | assumption | exact Ext.refl _ | refine Ext.app ?_ _)) only [go_sem]; with_reducible rfl))))
    exact fin_1 ⟨rfl, xG.trans x1⟩
end
end Go.Lq

namespace Go.Lq
open Go
open Go.Proofs

def posErrQ (x : List Int) (q : Int) : Int := if decide (0 ≤ q ∧ q ≤ 64 * ((x.length : Int) - 1)) = true then 0 else 2
def valErrL (deg : Int) (x : List Int) (q : Int) : Int := firstErr [degErrL deg, signalErrL x, posErrQ x q]
def valNumL (deg : Int) (x : List Int) (q : Int) : Int := if valErrL deg x q = 0 then valueL deg x q else 0
def valDenL (deg : Int) (x : List Int) (q : Int) : Int := if valErrL deg x q = 0 then denL deg else 0
theorem valErr_ok {deg : Int} {x : List Int} {q : Int} (h : valErrL deg x q = 0) : (deg = 1 ∨ deg = 3) ∧ signalErrL x = 0 ∧ 0 ≤ q ∧ q ≤ 64 * ((x.length : Int) - 1) := by
  unfold valErrL at h
  by_cases h1 : degErrL deg = 0
  · by_cases h2 : signalErrL x = 0
    · refine ⟨degErr_ok h1, h2, ?_⟩
      by_cases h3 : 0 ≤ q ∧ q ≤ 64 * ((x.length : Int) - 1)
      · exact h3
      · simp [firstErr, h1, h2, posErrQ, h3] at h
    · simp [firstErr, h1, h2] at h
  · simp [firstErr, h1] at h
theorem closed_iii (a b c : Int) : Closed (.tuple #[.int .i64 a, .int .i64 b, .int .i64 c]) := .tuple _ (closed_list (l := [.int .i64 a, .int .i64 b, .int .i64 c]) fun v hv => by
  simp only [List.mem_cons, List.not_mem_nil, or_false] at hv
  rcases hv with rfl | rfl | rfl <;> exact .int _ _)

section
variable {H : AHeap}
theorem valueAt_c {deg q : Int} {x : List Int} {v : Value} (hx : Ext H0 H) (hX : Ints H x v) (hxl : x.length ≤ 1000000000) : ACall Go.Proofs.Tryd.prog 37 [.int .i64 deg, v, .int .i64 q] H fun v H' =>
    v = .tuple #[.int .i64 (valNumL deg x q), .int .i64 (valDenL deg x q), .int .i64 (valErrL deg x q)] ∧ H' = H := by
  refine ACall.drop (closed_iii _ _ _) ?_
  (refine a37 ?_; simp only [n37, List.replicate, List.length_cons, List.length_nil, List.cons_append, List.nil_append]; first | refine q1 ?_ | refine q2 ?_ | refine q6 ?_ | refine q7 ?_ | refine qh rfl ?_ | skip)
  ((repeat (first | refine ya (by (with_reducible constructor) <;> first | rfl | decide) ?_ | apply yb | refine yc rfl ?_ | ((first | apply yd | apply ye); simp (disch := first | exact List.all_nil | omega | (simp only [go_sem]; done) | (simp only [ln, List.length_map]; omega) | (repeat' first | assumption | exact Ext.refl _ | refine Ext.app ?_ _)) only [go_sem]; with_reducible rfl))))
  refine aops_call_to (degreeErr_c _) ?_
  ((repeat (first | refine ya (by (with_reducible constructor) <;> first | rfl | decide) ?_ | apply yb | refine yc rfl ?_ | ((first | apply yd | apply ye); simp (disch := first | exact List.all_nil | omega | (simp only [go_sem]; done) | (simp only [ln, List.length_map]; omega) | (repeat' first | assumption | exact Ext.refl _ | refine Ext.app ?_ _)) only [go_sem]; with_reducible rfl))))
  refine aops_call_to (signalErr_c hX hxl) ?_
  ((repeat (first | refine ya (by (with_reducible constructor) <;> first | rfl | decide) ?_ | apply yb | refine yc rfl ?_ | ((first | apply yd | apply ye); simp (disch := first | exact List.all_nil | omega | (simp only [go_sem]; done) | (simp only [ln, List.length_map]; omega) | (repeat' first | assumption | exact Ext.refl _ | refine Ext.app ?_ _)) only [go_sem, hX.len, hX.idx, hX.load]; with_reducible rfl))))
  refine aops_call_to (within_c _ _ _) ?_
  ((repeat (first | refine ya (by (with_reducible constructor) <;> first | rfl | decide) ?_ | apply yb | refine yc rfl ?_ | ((first | apply yd | apply ye); simp (disch := first | exact List.all_nil | omega | (simp only [go_sem]; done) | (simp only [ln, List.length_map]; omega) | (repeat' first | assumption | exact Ext.refl _ | refine Ext.app ?_ _)) only [go_sem]; with_reducible rfl))))
  refine aops_call_to (unless_c _ _) ?_
  ((repeat (first | refine ya (by (with_reducible constructor) <;> first | rfl | decide) ?_ | apply yb | refine yc rfl ?_ | ((first | apply yd | apply ye); simp (disch := first | exact List.all_nil | omega | (simp only [go_sem]; done) | (simp only [ln, List.length_map]; omega) | (repeat' first | assumption | exact Ext.refl _ | refine Ext.app ?_ _)) only [go_sem]; with_reducible rfl))))
  refine aops_call_to (first_c (l := [_, _, _]) (Ints.last (l := [_, _, _]) 3) (by simp)) ?_
  have he : firstErr [degErrL deg, signalErrL x, (if decide (0 ≤ q ∧ q ≤ 64 * ((x.length : Int) - 1)) = true then 0 else 2)] = valErrL deg x q := rfl
  rw [he]
  have xG := (Ext.refl H).app [AObj.cells true 1 [.int .i64 (degErrL deg), .int .i64 (signalErrL x), .int .i64 (if decide (0 ≤ q ∧ q ≤ 64 * ((x.length : Int) - 1)) = true then 0 else 2)]]
  generalize (H ++ [AObj.cells true 1 [.int .i64 (degErrL deg), .int .i64 (signalErrL x), .int .i64 (if decide (0 ≤ q ∧ q ≤ 64 * ((x.length : Int) - 1)) = true then 0 else 2)]] : AHeap) = G at xG
  by_cases hz : valErrL deg x q = 0
  rotate_left 1
  · ((repeat (first | refine ya (by (with_reducible constructor) <;> first | rfl | decide) ?_ | apply yb | refine yc rfl ?_ | ((first | apply yd | apply ye); simp (disch := first | exact List.all_nil | omega | (simp only [go_sem]; done) | (simp only [ln, List.length_map]; omega) | (repeat' first | assumption | exact Ext.refl _ | refine Ext.app ?_ _)) only [go_sem, dec_t (show valErrL deg x q ≠ 0 from hz)]; with_reducible rfl))))
    refine cond_t rfl ?_
    ((repeat (first | refine ya (by (with_reducible constructor) <;> first | rfl | decide) ?_ | apply yb | refine yc rfl ?_ | ((first | apply yd | apply ye); simp (disch := first | exact List.all_nil | omega | (simp only [go_sem]; done) | (simp only [ln, List.length_map]; omega) | (repeat' first | assumption | exact Ext.refl _ | refine Ext.app ?_ _)) only [go_sem]; with_reducible rfl))))
    exact fin_3 ⟨by unfold valNumL valDenL; rw [if_neg hz, if_neg hz]; rfl, xG⟩
  ((repeat (first | refine ya (by (with_reducible constructor) <;> first | rfl | decide) ?_ | apply yb | refine yc rfl ?_ | ((first | apply yd | apply ye); simp (disch := first | exact List.all_nil | omega | (simp only [go_sem]; done) | (simp only [ln, List.length_map]; omega) | (repeat' first | assumption | exact Ext.refl _ | refine Ext.app ?_ _)) only [go_sem, hz]; with_reducible rfl))))
  refine cond_f rfl ?_
  obtain ⟨hd, hs, hq⟩ := valErr_ok hz
  obtain ⟨s1, s2⟩ := signalErr_ok hs
  have hx2 := hx.trans xG
  have en : valNumL deg x q = valueL deg x q := by unfold valNumL; rw [if_pos hz]
  have ed : valDenL deg x q = denL deg := by unfold valDenL; rw [if_pos hz]
  rw [en, ed]
  (repeat (first | refine ya (by (with_reducible constructor) <;> first | rfl | decide) ?_ | (apply yd; simp (disch := first | exact List.all_nil | omega | (simp only [go_sem]; done) | (simp only [ln, List.length_map]; omega) | (repeat' first | assumption | exact Ext.refl _ | refine Ext.app ?_ _)) only [go_sem, kern_idx hd, kern_load hx2 hd, store_kern]; with_reducible rfl)))
  have g0 : (G ++ [AObj.cells true 0 (kern deg)])[G.length]? = some (.cells true 0 (kern deg)) := at_new
  have xG2 := xG.app [AObj.cells true 0 (kern deg)]
  generalize (G ++ [AObj.cells true 0 (kern deg)] : AHeap) = G2 at g0 xG2
  ((repeat (first | refine ya (by (with_reducible constructor) <;> first | rfl | decide) ?_ | apply yb | refine yc rfl ?_ | ((first | apply yd | apply ye); simp (disch := first | exact List.all_nil | omega | (simp only [go_sem]; done) | (simp only [ln, List.length_map]; omega) | (repeat' first | assumption | exact Ext.refl _ | refine Ext.app ?_ _)) only [go_sem, kern_all g0]; with_reducible rfl))))
  refine adraw_call (N := []) (firstD (value_c hd (hX.ext xG2) s1 s2 hq)) ?_
  rw [List.append_nil]
  ((repeat (first | refine ya (by (with_reducible constructor) <;> first | rfl | decide) ?_ | apply yb | refine yc rfl ?_ | ((first | apply yd | apply ye); simp (disch := first | exact List.all_nil | omega | (simp only [go_sem]; done) | (simp only [ln, List.length_map]; omega) | (repeat' first | assumption | exact Ext.refl _ | refine Ext.app ?_ _)) only [go_sem, kern_den g0]; with_reducible rfl))))
  exact fin_3 ⟨by rw [hz]; rfl, xG2⟩
end
end Go.Lq

namespace Go.Lq
open Go
open Go.Proofs

theorem store_b1 {H : AHeap} {id e : Nat} {x y : Value} (h : H[id]? = some (.cells true e [x])) (ha : isAtom y = true) (hc : y.cells = ⟨[y]⟩) : storeR 1 (.pointer (some ⟨id, 0, none⟩)) y H = some (undef, H.set id (.cells true e [y])) := by
  have e2 : ([y] : List Value).all isAtom = true := by simp [ha]
  have e3 : setCells [x] 0 [y] = [y] := rfl
  simp only [storeR, hc, List.size_toArray, storeAt, h, e2, e3, and_true, List.length_cons, List.length_nil]
  rfl
theorem store_b2 {H : AHeap} {id e : Nat} {x y : Value} {a b : Int} (h : H[id]? = some (.cells true e [x, y])) : storeR 2 (.pointer (some ⟨id, 0, none⟩)) (.agg ⟨[.int .i64 a, .int .i64 b]⟩) H = some (undef, H.set id (.cells true e [.int .i64 a, .int .i64 b])) := store_at2v h rfl rfl
/-! ### A slice in a box, grown in a range over a function -/
theorem OwnI.aside {H0 H : AHeap} {l : List Int} {v : Value} (h : OwnI H0 H l v) {j : Nat} (hj : j < H0.length) : l.length = 0 ∨ idOf v ≠ j := by
  rcases h.2 with ⟨rfl, h0⟩ | ⟨id, rfl, h1, _, _⟩
  · exact .inl h0
  · exact .inr (by show id ≠ j; omega)
theorem OwnI.pushedL {H0 H : AHeap} {l : List Int} {v : Value} (h : OwnI H0 H l v) (hx : H0.length ≤ H.length) (x : Int) : OwnI H0 (pushH H v l x) (l ++ [x]) (pushV H l.length) := by
  have := Own.appended (h.app [.cells true 1 [.int .i64 x]]) (m := 1) (cs := [.int .i64 x]) rfl (by omega) (by simp; omega)
  unfold OwnI
  simpa [pushV, pushH] using this
theorem Keeps.push {k : Nat} {G G' H : AHeap} {l : List Int} {v : Value} (h : Keeps k G H) (ho : OwnI G' H l v) (hg : G.length ≤ G'.length) (x : Int) : Keeps k G (pushH H v l x) := by
  refine ⟨by rw [pushH_len]; have := h.1; omega, fun i hi hk => ?_⟩
  have hl : i < H.length := by have := h.1; omega
  unfold pushH
  rw [appH_at (by simp; omega) (ho.nil_or (ho.aside (by omega))), List.getElem?_append_left hl]
  exact h.2 i hi hk
structure BoxI (k : Nat) (G : AHeap) (l : List Int) (v : Value) (H : AHeap) : Prop where
  keeps : Keeps k G H
  box : H[k]? = some (.cells true 0 [v])
  own : OwnI (G ++ [.dead]) H l v
theorem BoxI.set {k : Nat} {G H : AHeap} {l : List Int} {v : Value} (h : BoxI k G l v H) (hk : k < G.length) (c : AObj) : BoxI k G l v (H.set G.length c) :=
  ⟨h.keeps.set (.inr (Nat.le_refl _)) _, by rw [List.getElem?_set_ne (by omega)]; exact h.box, h.own.set_ne (h.own.aside (by simp)) _⟩
theorem BoxI.app {k : Nat} {G H : AHeap} {l : List Int} {v : Value} (h : BoxI k G l v H) (N : AHeap) : BoxI k G l v (H ++ N) :=
  ⟨h.keeps.app N, at_app h.box, h.own.app N⟩
theorem BoxI.push {k : Nat} {G H : AHeap} {l : List Int} {v : Value} (h : BoxI k G l v H) (hk : k < G.length) (hl : G.length < H.length) (x : Int) {Rb : AObj} (hR : H[G.length]? = some Rb) :
    storeR 1 (.pointer (some ⟨k, 0, none⟩)) (pushV H l.length) (pushH H v l x) = some (undef, (pushH H v l x).set k (.cells true 0 [pushV H l.length])) ∧
    BoxI k G (l ++ [x]) (pushV H l.length) ((pushH H v l x).set k (.cells true 0 [pushV H l.length])) ∧ ((pushH H v l x).set k (.cells true 0 [pushV H l.length]))[G.length]? = some Rb := by
  have b1 := pushH_at (l := l) (x := x) h.box (h.own.nil_or (h.own.aside (by simp; omega)))
  have b2 := pushH_at (l := l) (x := x) hR (h.own.nil_or (h.own.aside (by simp)))
  refine ⟨store_b1 b1 rfl rfl, ⟨(h.keeps.push h.own (by simp) x).set (.inl rfl) _, get_set_self b1, ?_⟩, by rw [List.getElem?_set_ne (by omega)]; exact b2⟩
  have ho := h.own.pushedL (by simp; omega) x
  exact ho.set_ne (.inr (by show H.length + 1 ≠ k; omega)) _

/-! ### slices.Backward over numbers -/
theorem store_newF {H : AHeap} {p : Int × Int} {a b : Int} : storeR 2 (.pointer (some ⟨H.length, 0, none⟩)) (fracV p) (H ++ [.cells true 0 [.int .i64 a, .int .i64 b]]) = some (undef, H ++ [.cells true 0 [.int .i64 p.1, .int .i64 p.2]]) := store_new2
theorem fill_none (zs : List Value) : fillA zs [] = some zs := rfl
theorem fin_l2f {c : RCode} {n a b : Nat} {R : Value → AHeap → Prop} {e : Env} {H : AHeap} {id : Nat} {o : Bool} {z : Nat} {x y : Value} (hp : e.getD a undef = .pointer (some ⟨id, 0, none⟩)) (h1 : H[id]? = some (.cells o z [x, y])) (h : R (.tuple #[.agg ⟨[x, y]⟩, e.getD b undef]) H) :
    Fin ⟨c, n, [.loadN 2 a, .tmp b]⟩ R .ret e H := fin_l2 (u := .agg ⟨[x, y]⟩) (by rw [hp]; exact loadN_at h1 (by simp)) h

section
variable {H : AHeap}
end
end Go.Lq

namespace Go.Lq
open Go
open Go.Proofs

theorem most_max3 {a b c : Int} {H : AHeap} : mostR true (.int .i64 a) [.int .i64 b, .int .i64 c] H = some (.int .i64 (max (max a b) c), H) := by
  simp only [mostR, mostA, Option.map_some, if_true]
  congr 3
  split <;> split <;> omega
theorem most_min3 {a b c : Int} {H : AHeap} : mostR false (.int .i64 a) [.int .i64 b, .int .i64 c] H = some (.int .i64 (min (min a b) c), H) := by
  simp only [mostR, mostA, Option.map_some]
  congr 3
  simp only [Bool.false_eq_true, if_false]
  split <;> split <;> omega
attribute [go_sem] most_max3 most_min3
section
variable {H : AHeap}
end
end Go.Lq

namespace Go.Lq
open Go
open Go.Proofs

def eqvR (kind : Nat) (neg : Bool) (x y : Value) (H : AHeap) : Option (Value × AHeap) := (eqvA kind x y).map fun b => (.bool (neg != b), H)
theorem r_eqv {ρ : Operand → Value} {H : AHeap} {k : Nat} {neg : Bool} {x y : Operand} : ropRun (.eqv k neg x y) ρ H = eqvR k neg (ρ x) (ρ y) H := rfl
theorem eqv_slN {neg : Bool} {a : Addr} {n c : Nat} {H : AHeap} : eqvR 2 neg (.slice (some a) n c) (.slice none 0 0) H = some (.bool (neg != false), H) := rfl
theorem eqv_slNN {neg : Bool} {H : AHeap} : eqvR 2 neg (.slice none 0 0) (.slice none 0 0) H = some (.bool (neg != true), H) := rfl
attribute [go_sem] r_eqv eqv_slN eqv_slNN
theorem ints_first {H : AHeap} {id c : Nat} {l r : List Int} {b : Bool} (h : H[id]? = some (.cells b 1 ((l ++ r).map (.int .i64)))) : Ints H l (.slice (some ⟨id, 0, none⟩) l.length c) := by
  refine ⟨by simp, .inr ⟨id, 0, c, rfl, fun _ => ?_⟩⟩
  unfold cellsAt
  rw [h]
  simp only
  rw [if_pos (by simp), List.drop_zero, List.map_append, List.take_append_of_le_length (by simp), List.take_of_length_le (by simp)]
theorem store_cellI {H : AHeap} {id n c i : Nat} {l : List Int} (h : H[id]? = some (.cells true 1 (l.map (.int .i64)))) (hi : i < l.length) (x : Int) :
    storeR 1 (addrOf (.slice (some ⟨id, 0, none⟩) n c) i) (.int .i64 x) H = some (undef, H.set id (.cells true 1 ((l.set i x).map (.int .i64)))) := by
  have e1 : (Value.int .i64 x).cells.toList = [.int .i64 x] := rfl
  have e2 : (Value.int .i64 x).cells.size = 1 := rfl
  have e3 : ([Value.int .i64 x]).all isAtom = true := rfl
  simp only [addrOf, Nat.zero_add, storeR, e1, e2, if_true, storeAt, h, e3, and_true, List.length_map]
  rw [if_pos (by simp; omega), setCells_one _ _ _ (by simpa using hi)]
  simp only [Option.map_some, List.map_set]

section
variable {H : AHeap}
end
end Go.Lq

namespace Go.Lq
open Go
open Go.Proofs

theorem set_in {H : AHeap} {A A' B : AObj} : (H ++ [A] ++ [B]).set H.length A' = H ++ [A'] ++ [B] := by
  rw [List.set_append_left _ _ (by simp), List.set_append_right _ _ (by simp)]
  simp
section
variable {G : AHeap} {l : List Int} {n : Nat} {d : Int}
end

theorem store_c0 {H : AHeap} {id e : Nat} {x y z : Value} (h : H[id]? = some (.cells true e [x, z])) (ha : isAtom y = true) (hc : y.cells = ⟨[y]⟩) : storeR 1 (.pointer (some ⟨id, 0, none⟩)) y H = some (undef, H.set id (.cells true e [y, z])) := by
  have e2 : ([y] : List Value).all isAtom = true := by simp [ha]
  have e3 : setCells [x, z] 0 [y] = [y, z] := rfl
  simp only [storeR, hc, List.size_toArray, storeAt, h, e2, e3, and_true, List.length_cons, List.length_nil]
  rfl
structure BoxD (k : Nat) (G : AHeap) (l : List Int) (v : Value) (d : Int) (H : AHeap) : Prop where
  keeps : Keeps k G H
  box : H[k]? = some (.cells true 0 [v, .int .i64 d])
  own : OwnI G H l v
theorem BoxD.push {k : Nat} {G H : AHeap} {l : List Int} {v : Value} {d : Int} (h : BoxD k G l v d H) (hk : k < G.length) (x : Int) :
    storeR 1 (.pointer (some ⟨k, 0, none⟩)) (pushV H l.length) (pushH H v l x) = some (undef, (pushH H v l x).set k (.cells true 0 [pushV H l.length, .int .i64 d])) ∧
    BoxD k G (l ++ [x]) (pushV H l.length) d ((pushH H v l x).set k (.cells true 0 [pushV H l.length, .int .i64 d])) := by
  have b1 := pushH_at (l := l) (x := x) h.box (h.own.nil_or (h.own.aside hk))
  have hl := h.keeps.1
  refine ⟨store_c0 b1 rfl rfl, ⟨(h.keeps.push h.own (Nat.le_refl _) x).set (.inl rfl) _, get_set_self b1, ?_⟩⟩
  exact (h.own.pushedL hl x).set_ne (.inr (by show H.length + 1 ≠ k; omega)) _
section
variable {H : AHeap}
end
end Go.Lq

namespace Go.Lq
open Go
open Go.Proofs

section
variable {H : AHeap}
theorem swithin_c (n lo hi : Int) : ACall Go.Proofs.Tryd.prog 141 [.int .i64 n, .int .i64 lo, .int .i64 hi] H fun v H' => v = .bool (decide (lo ≤ n ∧ n ≤ hi)) ∧ H' = H := by
  (refine a141 ?_; simp only [n141, List.replicate, List.length_cons, List.length_nil, List.cons_append, List.nil_append]; first | refine q1 ?_ | refine q2 ?_ | refine q6 ?_ | refine q7 ?_ | refine qh rfl ?_ | skip)
  (repeat (first | refine ya (by (with_reducible constructor) <;> first | rfl | decide) ?_ | apply yb | refine yc rfl ?_)); (refine aops_until (by simp (disch := first | exact List.all_nil | omega | (simp only [go_sem]; done) | (simp only [ln, List.length_map]; omega) | (repeat' first | assumption | exact Ext.refl _ | refine Ext.app ?_ _)) only [go_sem]; with_reducible rfl) ?_); (repeat (first | refine ya (by (with_reducible constructor) <;> first | rfl | decide) ?_ | apply yb | refine yc rfl ?_))
  by_cases h : lo ≤ n
  · (refine aops_until (by simp (disch := first | exact List.all_nil | omega | (simp only [go_sem]; done) | (simp only [ln, List.length_map]; omega) | (repeat' first | assumption | exact Ext.refl _ | refine Ext.app ?_ _)) only [go_sem, h]; with_reducible rfl) ?_)
    (repeat (first | refine ya (by (with_reducible constructor) <;> first | rfl | decide) ?_ | apply yb | refine yc rfl ?_))
    refine fin_1 ⟨?_, rfl⟩
    simp [h]
  · (refine aops_until (by simp (disch := first | exact List.all_nil | omega | (simp only [go_sem]; done) | (simp only [ln, List.length_map]; omega) | (repeat' first | assumption | exact Ext.refl _ | refine Ext.app ?_ _)) only [go_sem, h]; with_reducible rfl) ?_)
    (repeat (first | refine ya (by (with_reducible constructor) <;> first | rfl | decide) ?_ | apply yb | refine yc rfl ?_))
    refine fin_1 ⟨?_, rfl⟩
    simp [h]
theorem sunless_c (b : Bool) (e : Int) : ACall Go.Proofs.Tryd.prog 134 [.bool b, .int .i64 e] H fun v H' => v = .int .i64 (if b then 0 else e) ∧ H' = H := by
  (refine a134 ?_; simp only [n134, List.replicate, List.length_cons, List.length_nil, List.cons_append, List.nil_append]; first | refine q1 ?_ | refine q2 ?_ | refine q6 ?_ | refine q7 ?_ | refine qh rfl ?_ | skip)
  (repeat (first | refine ya (by (with_reducible constructor) <;> first | rfl | decide) ?_ | apply yb | refine yc rfl ?_)); (refine aops_until (by simp (disch := first | exact List.all_nil | omega | (simp only [go_sem]; done) | (simp only [ln, List.length_map]; omega) | (repeat' first | assumption | exact Ext.refl _ | refine Ext.app ?_ _)) only [go_sem]; with_reducible rfl) ?_); (repeat (first | refine ya (by (with_reducible constructor) <;> first | rfl | decide) ?_ | apply yb | refine yc rfl ?_)); (refine aops_until (by simp (disch := first | exact List.all_nil | omega | (simp only [go_sem]; done) | (simp only [ln, List.length_map]; omega) | (repeat' first | assumption | exact Ext.refl _ | refine Ext.app ?_ _)) only [go_sem]; with_reducible rfl) ?_); (repeat (first | refine ya (by (with_reducible constructor) <;> first | rfl | decide) ?_ | apply yb | refine yc rfl ?_))
  cases b with
  | true =>
    refine cond_t rfl ?_
    (repeat (first | refine ya (by (with_reducible constructor) <;> first | rfl | decide) ?_ | apply yb | refine yc rfl ?_)); (refine aops_until (by simp (disch := first | exact List.all_nil | omega | (simp only [go_sem]; done) | (simp only [ln, List.length_map]; omega) | (repeat' first | assumption | exact Ext.refl _ | refine Ext.app ?_ _)) only [go_sem]; with_reducible rfl) ?_); (repeat (first | refine ya (by (with_reducible constructor) <;> first | rfl | decide) ?_ | apply yb | refine yc rfl ?_))
    exact fin_1 ⟨rfl, rfl⟩
  | false =>
    refine cond_f rfl ?_
    (repeat (first | refine ya (by (with_reducible constructor) <;> first | rfl | decide) ?_ | apply yb | refine yc rfl ?_)); (refine aops_until (by simp (disch := first | exact List.all_nil | omega | (simp only [go_sem]; done) | (simp only [ln, List.length_map]; omega) | (repeat' first | assumption | exact Ext.refl _ | refine Ext.app ?_ _)) only [go_sem]; with_reducible rfl) ?_); (repeat (first | refine ya (by (with_reducible constructor) <;> first | rfl | decide) ?_ | apply yb | refine yc rfl ?_))
    exact fin_1 ⟨rfl, rfl⟩
theorem sfirst_c {l : List Int} {v : Value} (hl : Ints H l v) (hb : l.length ≤ 1000000) : ACall Go.Proofs.Tryd.prog 133 [v] H fun v H' => v = .int .i64 (firstErr l) ∧ H' = H := by
  (refine a133 ?_; simp only [n133, List.replicate, List.length_cons, List.length_nil, List.cons_append, List.nil_append]; first | refine q1 ?_ | refine q2 ?_ | refine q6 ?_ | refine q7 ?_ | refine qh rfl ?_ | skip)
  (repeat (first | refine ya (by (with_reducible constructor) <;> first | rfl | decide) ?_ | apply yb | refine yc rfl ?_)); (refine aops_until (by simp (disch := first | exact List.all_nil | omega | (simp only [go_sem]; done) | (simp only [ln, List.length_map]; omega) | (repeat' first | assumption | exact Ext.refl _ | refine Ext.app ?_ _)) only [go_sem]; with_reducible rfl) ?_); (repeat (first | refine ya (by (with_reducible constructor) <;> first | rfl | decide) ?_ | apply yb | refine yc rfl ?_)); (refine aops_until (by simp (disch := first | exact List.all_nil | omega | (simp only [go_sem]; done) | (simp only [ln, List.length_map]; omega) | (repeat' first | assumption | exact Ext.refl _ | refine Ext.app ?_ _)) only [go_sem, hl.len, hl.idx, hl.load]; with_reducible rfl) ?_); (repeat (first | refine ya (by (with_reducible constructor) <;> first | rfl | decide) ?_ | apply yb | refine yc rfl ?_))
  refine awp_loop_n [true, false, true, false, false, true, true, true, false, false, false, false, false, false, false] l.length (fun i e H' => H' = H ∧ e = [v, junk, .int .i64 0, junk, junk, v, .int .i64 l.length, .int .i64 i, junk, junk, junk, junk, junk, junk, junk] ∧ ∀ j < i, l.getD j 0 = 0) ?_ ?_
  · exact ⟨rfl, rfl, by omega⟩
  · rintro i e H' hi ⟨rfl, rfl, hp⟩
    (repeat (first | refine ya (by (with_reducible constructor) <;> first | rfl | decide) ?_ | apply yb | refine yc rfl ?_)); (refine aops_until (by simp (disch := first | exact List.all_nil | omega | (simp only [go_sem]; done) | (simp only [ln, List.length_map]; omega) | (repeat' first | assumption | exact Ext.refl _ | refine Ext.app ?_ _)) only [go_sem, hl.len, hl.idx, hl.load]; with_reducible rfl) ?_); (repeat (first | refine ya (by (with_reducible constructor) <;> first | rfl | decide) ?_ | apply yb | refine yc rfl ?_))
    refine cond_p rfl (fun hlt => ?_) (fun hge => ?_)
    · (repeat (first | refine ya (by (with_reducible constructor) <;> first | rfl | decide) ?_ | apply yb | refine yc rfl ?_)); (refine aops_until (by simp (disch := first | exact List.all_nil | omega | (simp only [go_sem]; done) | (simp only [ln, List.length_map]; omega) | (repeat' first | assumption | exact Ext.refl _ | refine Ext.app ?_ _)) only [go_sem, hl.len, hl.idx, hl.load]; with_reducible rfl) ?_); (repeat (first | refine ya (by (with_reducible constructor) <;> first | rfl | decide) ?_ | apply yb | refine yc rfl ?_)); (refine aops_until (by simp (disch := first | exact List.all_nil | omega | (simp only [go_sem]; done) | (simp only [ln, List.length_map]; omega) | (repeat' first | assumption | exact Ext.refl _ | refine Ext.app ?_ _)) only [go_sem]; with_reducible rfl) ?_); (repeat (first | refine ya (by (with_reducible constructor) <;> first | rfl | decide) ?_ | apply yb | refine yc rfl ?_))
      refine cond_p rfl (fun hne => ?_) (fun heq => ?_)
      · (repeat (first | refine ya (by (with_reducible constructor) <;> first | rfl | decide) ?_ | apply yb | refine yc rfl ?_)); (refine aops_until (by simp (disch := first | exact List.all_nil | omega | (simp only [go_sem]; done) | (simp only [ln, List.length_map]; omega) | (repeat' first | assumption | exact Ext.refl _ | refine Ext.app ?_ _)) only [go_sem]; with_reducible rfl) ?_); (repeat (first | refine ya (by (with_reducible constructor) <;> first | rfl | decide) ?_ | apply yb | refine yc rfl ?_))
        refine fin_1 ⟨?_, rfl⟩
        unfold firstErr
        rw [find_at (d := 0) (i := i) (by omega) (fun j hj => by simpa using hp j hj) (by simpa using hne)]
        rfl
      · (repeat (first | refine ya (by (with_reducible constructor) <;> first | rfl | decide) ?_ | apply yb | refine yc rfl ?_)); (refine aops_until (by simp (disch := first | exact List.all_nil | omega | (simp only [go_sem]; done) | (simp only [ln, List.length_map]; omega) | (repeat' first | assumption | exact Ext.refl _ | refine Ext.app ?_ _)) only [go_sem]; with_reducible rfl) ?_); (repeat (first | refine ya (by (with_reducible constructor) <;> first | rfl | decide) ?_ | apply yb | refine yc rfl ?_))
        refine ⟨by omega, rfl, ?_, fun j hj => ?_⟩
        · simp [forget]
        · by_cases h : j = i
          · subst h; simpa using heq
          · exact hp j (by omega)
    · (repeat (first | refine ya (by (with_reducible constructor) <;> first | rfl | decide) ?_ | apply yb | refine yc rfl ?_)); (refine aops_until (by simp (disch := first | exact List.all_nil | omega | (simp only [go_sem]; done) | (simp only [ln, List.length_map]; omega) | (repeat' first | assumption | exact Ext.refl _ | refine Ext.app ?_ _)) only [go_sem]; with_reducible rfl) ?_); (repeat (first | refine ya (by (with_reducible constructor) <;> first | rfl | decide) ?_ | apply yb | refine yc rfl ?_))
      refine fin_1 ⟨?_, rfl⟩
      unfold firstErr
      rw [find_none (d := 0) (fun j hj => by simpa using hp j (by omega))]
      rfl
theorem isPosition_c (n : Int) : ACall Go.Proofs.Tryd.prog 135 [.int .i64 n] H fun v H' => v = .bool (decide (0 ≤ n ∧ n ≤ 1000000)) ∧ H' = H := by
  (refine a135 ?_; simp only [n135, List.replicate, List.length_cons, List.length_nil, List.cons_append, List.nil_append]; first | refine q1 ?_ | refine q2 ?_ | refine q6 ?_ | refine q7 ?_ | refine qh rfl ?_ | skip)
  ((repeat (first | refine ya (by (with_reducible constructor) <;> first | rfl | decide) ?_ | apply yb | refine yc rfl ?_ | ((first | apply yd | apply ye); simp (disch := first | exact List.all_nil | omega | (simp only [go_sem]; done) | (simp only [ln, List.length_map]; omega) | (repeat' first | assumption | exact Ext.refl _ | refine Ext.app ?_ _)) only [go_sem]; with_reducible rfl))))
  refine aops_call_to (swithin_c _ _ _) ?_
  ((repeat (first | refine ya (by (with_reducible constructor) <;> first | rfl | decide) ?_ | apply yb | refine yc rfl ?_ | ((first | apply yd | apply ye); simp (disch := first | exact List.all_nil | omega | (simp only [go_sem]; done) | (simp only [ln, List.length_map]; omega) | (repeat' first | assumption | exact Ext.refl _ | refine Ext.app ?_ _)) only [go_sem]; with_reducible rfl))))
  exact fin_1 ⟨rfl, rfl⟩
theorem isTime_c (n : Int) : ACall Go.Proofs.Tryd.prog 136 [.int .i64 n] H fun v H' => v = .bool (decide (0 ≤ n ∧ n ≤ 1000000000000)) ∧ H' = H := by
  (refine a136 ?_; simp only [n136, List.replicate, List.length_cons, List.length_nil, List.cons_append, List.nil_append]; first | refine q1 ?_ | refine q2 ?_ | refine q6 ?_ | refine q7 ?_ | refine qh rfl ?_ | skip)
  ((repeat (first | refine ya (by (with_reducible constructor) <;> first | rfl | decide) ?_ | apply yb | refine yc rfl ?_ | ((first | apply yd | apply ye); simp (disch := first | exact List.all_nil | omega | (simp only [go_sem]; done) | (simp only [ln, List.length_map]; omega) | (repeat' first | assumption | exact Ext.refl _ | refine Ext.app ?_ _)) only [go_sem]; with_reducible rfl))))
  refine aops_call_to (swithin_c _ _ _) ?_
  ((repeat (first | refine ya (by (with_reducible constructor) <;> first | rfl | decide) ?_ | apply yb | refine yc rfl ?_ | ((first | apply yd | apply ye); simp (disch := first | exact List.all_nil | omega | (simp only [go_sem]; done) | (simp only [ln, List.length_map]; omega) | (repeat' first | assumption | exact Ext.refl _ | refine Ext.app ?_ _)) only [go_sem]; with_reducible rfl))))
  exact fin_1 ⟨rfl, rfl⟩
theorem rIsPosition_c (n : Int) : ACall Go.Proofs.Tryd.prog 137 [.int .i64 n] H fun v H' => v = .bool (decide (0 ≤ n ∧ n ≤ 1000000)) ∧ H' = H := by
  (refine a137 ?_; simp only [n137, List.replicate, List.length_cons, List.length_nil, List.cons_append, List.nil_append]; first | refine q1 ?_ | refine q2 ?_ | refine q6 ?_ | refine q7 ?_ | refine qh rfl ?_ | skip)
  ((repeat (first | refine ya (by (with_reducible constructor) <;> first | rfl | decide) ?_ | apply yb | refine yc rfl ?_ | ((first | apply yd | apply ye); simp (disch := first | exact List.all_nil | omega | (simp only [go_sem]; done) | (simp only [ln, List.length_map]; omega) | (repeat' first | assumption | exact Ext.refl _ | refine Ext.app ?_ _)) only [go_sem]; with_reducible rfl))))
  refine aops_call_to (bwithin_c _ _ _) ?_
  ((repeat (first | refine ya (by (with_reducible constructor) <;> first | rfl | decide) ?_ | apply yb | refine yc rfl ?_ | ((first | apply yd | apply ye); simp (disch := first | exact List.all_nil | omega | (simp only [go_sem]; done) | (simp only [ln, List.length_map]; omega) | (repeat' first | assumption | exact Ext.refl _ | refine Ext.app ?_ _)) only [go_sem]; with_reducible rfl))))
  exact fin_1 ⟨rfl, rfl⟩
theorem rIsTick_c (n : Int) : ACall Go.Proofs.Tryd.prog 138 [.int .i64 n] H fun v H' => v = .bool (decide (0 ≤ n ∧ n ≤ 1000000000000)) ∧ H' = H := by
  (refine a138 ?_; simp only [n138, List.replicate, List.length_cons, List.length_nil, List.cons_append, List.nil_append]; first | refine q1 ?_ | refine q2 ?_ | refine q6 ?_ | refine q7 ?_ | refine qh rfl ?_ | skip)
  ((repeat (first | refine ya (by (with_reducible constructor) <;> first | rfl | decide) ?_ | apply yb | refine yc rfl ?_ | ((first | apply yd | apply ye); simp (disch := first | exact List.all_nil | omega | (simp only [go_sem]; done) | (simp only [ln, List.length_map]; omega) | (repeat' first | assumption | exact Ext.refl _ | refine Ext.app ?_ _)) only [go_sem]; with_reducible rfl))))
  refine aops_call_to (bwithin_c _ _ _) ?_
  ((repeat (first | refine ya (by (with_reducible constructor) <;> first | rfl | decide) ?_ | apply yb | refine yc rfl ?_ | ((first | apply yd | apply ye); simp (disch := first | exact List.all_nil | omega | (simp only [go_sem]; done) | (simp only [ln, List.length_map]; omega) | (repeat' first | assumption | exact Ext.refl _ | refine Ext.app ?_ _)) only [go_sem]; with_reducible rfl))))
  exact fin_1 ⟨rfl, rfl⟩
theorem Pairs.atom {l : List (Int × Int)} {v : Value} (h : Pairs H l v) : isAtom v = true := by
  rcases h.2 with ⟨rfl, _⟩ | ⟨id, off, c, rfl, _⟩ <;> rfl
theorem Pairs.box1 {l : List (Int × Int)} {v : Value} (h : Pairs H l v) {H' : AHeap} : boxR (.agg ⟨[v]⟩) H' = some (.pointer (some ⟨H'.length, 0, none⟩), H' ++ [.cells true 0 [v]]) :=
  box_agg (by simp [h.atom])
theorem n1_at {G : AHeap} {id : Nat} {a : Value} (h : G[id]? = some (.cells true 0 [a])) : loadNR 1 (.pointer (some ⟨id, 0, none⟩)) G = some (.agg ⟨[a]⟩, G) := loadN_at h (by simp)
theorem node_E {p n : Int × Int} : firstErr [(if decide ((0 ≤ n.1 ∧ n.1 ≤ 1000000) ∧ (0 ≤ n.2 ∧ n.2 ≤ 1000000000000)) = true then 0 else 2), (if decide (p.1 < n.1 ∧ p.2 < n.2) = true then 0 else 9)] = nodeE p n := by
  unfold nodeE
  simp only [decide_eq_true_eq]

set_option maxHeartbeats 4000000 in
theorem spCheckMap_c {l : List (Int × Int)} {v : Value} (hl : Pairs H l v) (hb : l.length ≤ 1000000000) : ACall Go.Proofs.Tryd.prog 97 [.agg ⟨[v]⟩] H fun w H' => w = .tuple #[.int .i64 (ckMap l).1, .int .i64 (ckMap l).2] ∧ H' = H := by
  refine ACall.drop (closed_two _ _) ?_
  (refine a97 ?_; simp only [n97, List.replicate, List.length_cons, List.length_nil, List.cons_append, List.nil_append]; first | refine q1 ?_ | refine q2 ?_ | refine q6 ?_ | refine q7 ?_ | refine qh rfl ?_ | skip)
  have g0 : (H ++ [AObj.cells true 0 [v]])[H.length]? = some (.cells true 0 [v]) := at_new
  have xG : Ext H (H ++ [AObj.cells true 0 [v]]) := (Ext.refl H).app _
  ((repeat (first | refine ya (by (with_reducible constructor) <;> first | rfl | decide) ?_ | apply yb | refine yc rfl ?_ | ((first | apply yd | apply ye); simp (disch := first | exact List.all_nil | omega | (simp only [go_sem]; done) | (simp only [ln, List.length_map]; omega) | (repeat' first | assumption | exact Ext.refl _ | refine Ext.app ?_ _)) only [go_sem, hl.box1]; with_reducible rfl))))
  generalize (H ++ [AObj.cells true 0 [v]] : AHeap) = G at g0 xG
  have hl1 := hl.ext xG
  ((repeat (first | refine ya (by (with_reducible constructor) <;> first | rfl | decide) ?_ | apply yb | refine yc rfl ?_ | ((first | apply yd | apply ye); simp (disch := first | exact List.all_nil | omega | (simp only [go_sem]; done) | (simp only [ln, List.length_map]; omega) | (repeat' first | assumption | exact Ext.refl _ | refine Ext.app ?_ _)) only [go_sem, hl1.len, hl1.idx, hl1.load, load_at g0]; with_reducible rfl))))
  refine adraw_call (N := []) (firstD (sunless_c _ _)) ?_
  rw [List.append_nil]
  ((repeat (first | refine ya (by (with_reducible constructor) <;> first | rfl | decide) ?_ | apply yb | refine yc rfl ?_ | ((first | apply yd | apply ye); simp (disch := first | exact List.all_nil | omega | (simp only [go_sem]; done) | (simp only [ln, List.length_map]; omega) | (repeat' first | assumption | exact Ext.refl _ | refine Ext.app ?_ _)) only [go_sem, hl1.len, hl1.idx, hl1.load, load_at g0]; with_reducible rfl))))
  refine adraw_call (N := []) (firstD (sunless_c _ _)) ?_
  rw [List.append_nil]
  ((repeat (first | refine ya (by (with_reducible constructor) <;> first | rfl | decide) ?_ | apply yb | refine yc rfl ?_ | ((first | apply yd | apply ye); simp (disch := first | exact List.all_nil | omega | (simp only [go_sem]; done) | (simp only [ln, List.length_map]; omega) | (repeat' first | assumption | exact Ext.refl _ | refine Ext.app ?_ _)) only [go_sem]; with_reducible rfl))))
  refine adraw_call (N := []) (firstD (sfirst_c (l := [_, _]) (Ints.last (l := [_, _]) 2) (by simp))) ?_
  rw [List.append_nil]
  by_cases h2 : l.length < 2
  · have ec : ckMap l = (0, 10) := by unfold ckMap; rw [if_pos h2]
    rw [ec]
    ((repeat (first | refine ya (by (with_reducible constructor) <;> first | rfl | decide) ?_ | apply yb | refine yc rfl ?_ | ((first | apply yd | apply ye); simp (disch := first | exact List.all_nil | omega | (simp only [go_sem]; done) | (simp only [ln, List.length_map]; omega) | (repeat' first | assumption | exact Ext.refl _ | refine Ext.app ?_ _)) only [go_sem, dec_f (show ¬ (2 : Int) ≤ (l.length : Int) by omega), ite_ft, firstErr_e (show (10 : Int) ≠ 0 by decide)]; with_reducible rfl))))
    refine cond_t rfl ?_
    ((repeat (first | refine ya (by (with_reducible constructor) <;> first | rfl | decide) ?_ | apply yb | refine yc rfl ?_ | ((first | apply yd | apply ye); simp (disch := first | exact List.all_nil | omega | (simp only [go_sem]; done) | (simp only [ln, List.length_map]; omega) | (repeat' first | assumption | exact Ext.refl _ | refine Ext.app ?_ _)) only [go_sem]; with_reducible rfl))))
    exact fin_2 ⟨rfl, xG.app _⟩
  by_cases h20 : 20 < l.length
  · have ec : ckMap l = (0, 8) := by unfold ckMap; rw [if_neg h2, if_pos h20]
    rw [ec]
    ((repeat (first | refine ya (by (with_reducible constructor) <;> first | rfl | decide) ?_ | apply yb | refine yc rfl ?_ | ((first | apply yd | apply ye); simp (disch := first | exact List.all_nil | omega | (simp only [go_sem]; done) | (simp only [ln, List.length_map]; omega) | (repeat' first | assumption | exact Ext.refl _ | refine Ext.app ?_ _)) only [go_sem, dec_t (show (2 : Int) ≤ (l.length : Int) by omega), dec_f (show ¬ (l.length : Int) ≤ 20 by omega), ite_tt, ite_ft, firstErr_z, firstErr_e (show (8 : Int) ≠ 0 by decide)]; with_reducible rfl))))
    refine cond_t rfl ?_
    ((repeat (first | refine ya (by (with_reducible constructor) <;> first | rfl | decide) ?_ | apply yb | refine yc rfl ?_ | ((first | apply yd | apply ye); simp (disch := first | exact List.all_nil | omega | (simp only [go_sem]; done) | (simp only [ln, List.length_map]; omega) | (repeat' first | assumption | exact Ext.refl _ | refine Ext.app ?_ _)) only [go_sem]; with_reducible rfl))))
    exact fin_2 ⟨rfl, xG.app _⟩
  have ec : ckMap l = ckGo (-1, -1) 0 l := by unfold ckMap; rw [if_neg h2, if_neg h20]
  ((repeat (first | refine ya (by (with_reducible constructor) <;> first | rfl | decide) ?_ | apply yb | refine yc rfl ?_ | ((first | apply yd | apply ye); simp (disch := first | exact List.all_nil | omega | (simp only [go_sem]; done) | (simp only [ln, List.length_map]; omega) | (repeat' first | assumption | exact Ext.refl _ | refine Ext.app ?_ _)) only [go_sem, dec_t (show (2 : Int) ≤ (l.length : Int) by omega), dec_t (show (l.length : Int) ≤ 20 by omega), ite_tt, firstErr_z, firstErr_nil]; with_reducible rfl))))
  refine cond_f rfl ?_
  have x2 : Ext G (G ++ [AObj.cells true 1 [.int .i64 0, .int .i64 0]]) := (Ext.refl G).app _
  generalize (G ++ [AObj.cells true 1 [.int .i64 0, .int .i64 0]] : AHeap) = G2 at x2
  have xH2 := xG.trans x2
  have hl2 := hl.ext xH2
  have k0 := at_app (N := [AObj.cells true 0 [.int .i64 (-1), .int .i64 (-1)]]) (x2.cell g0)
  have k5 : (G2 ++ [AObj.cells true 0 [.int .i64 (-1), .int .i64 (-1)]])[G2.length]? = some (.cells true 0 [.int .i64 (-1), .int .i64 (-1)]) := at_new
  have x3 : Ext G2 (G2 ++ [AObj.cells true 0 [.int .i64 (-1), .int .i64 (-1)]]) := (Ext.refl G2).app _
  have hl3 := hl2.ext x3
  ((repeat (first | refine ya (by (with_reducible constructor) <;> first | rfl | decide) ?_ | apply yb | refine yc rfl ?_ | ((first | apply yd | apply ye); simp (disch := first | exact List.all_nil | omega | (simp only [go_sem]; done) | (simp only [ln, List.length_map]; omega) | (repeat' first | assumption | exact Ext.refl _ | refine Ext.app ?_ _)) only [go_sem, hl3.len, hl3.idx, hl3.load, fill2i, store_new2, load_at k0]; with_reducible rfl))))
  have l3 : (G2 ++ [AObj.cells true 0 [.int .i64 (-1), .int .i64 (-1)]]).length = G2.length + 1 := by simp
  generalize (G2 ++ [AObj.cells true 0 [.int .i64 (-1), .int .i64 (-1)]] : AHeap) = G3 at k0 k5 x3 hl3 l3
  refine awp_loop_n [false, true, false, false, false, true, false, false, false, false, false, false, false, false, false, false, false, false, false, false, false, false, false, false, false, false, true, true, true, false, false, false, false, false, false, false, false, false, false, false, false, false, false, false, false, false, false, false, false, false, false, false, false, false, false, false, false, false, false, false, false, false, false] l.length (fun i e H' => e = [junk, .pointer (some ⟨H.length, 0, none⟩), junk, junk, junk, .pointer (some ⟨G2.length, 0, none⟩), junk, junk, junk, junk, junk, junk, junk, junk, junk, junk, junk, junk, junk, junk, junk, junk, junk, junk, junk, junk, v, .int .i64 (l.length : Nat), .int .i64 i, junk, junk, junk, junk, junk, junk, junk, junk, junk, junk, junk, junk, junk, junk, junk, junk, junk, junk, junk, junk, junk, junk, junk, junk, junk, junk, junk, junk, junk, junk, junk, junk, junk, junk] ∧ Keeps G2.length G3 H' ∧ H'[G2.length]? = some (.cells true 0 [.int .i64 (prevAt l i).1, .int .i64 (prevAt l i).2]) ∧ ∀ j, j < i → nodeE (prevAt l j) (l.getD j (0, 0)) = 0) ?_ ?_
  · exact ⟨by simp [forget], Keeps.of_ext (Ext.refl _), k5, fun j hj => by omega⟩
  rintro i e H' hi ⟨rfl, hK, b5, hj⟩
  have xK := hK.ext x3 (Nat.le_refl _)
  have xK2 := xH2.trans xK
  have hll := hl.ext xK2
  have ec2 := ckGo_from hj hi
  rw [← ec] at ec2
  ((repeat (first | refine ya (by (with_reducible constructor) <;> first | rfl | decide) ?_ | apply yb | refine yc rfl ?_ | ((first | apply yd | apply ye); simp (disch := first | exact List.all_nil | omega | (simp only [go_sem]; done) | (simp only [ln, List.length_map]; omega) | (repeat' first | assumption | exact Ext.refl _ | refine Ext.app ?_ _)) only [go_sem]; with_reducible rfl))))
  refine cond_p rfl (fun hlt => ?_) (fun hge => ?_)
  rotate_left 1
  · obtain rfl : i = l.length := by omega
    rw [ckGo_end] at ec2
    ((repeat (first | refine ya (by (with_reducible constructor) <;> first | rfl | decide) ?_ | apply yb | refine yc rfl ?_ | ((first | apply yd | apply ye); simp (disch := first | exact List.all_nil | omega | (simp only [go_sem]; done) | (simp only [ln, List.length_map]; omega) | (repeat' first | assumption | exact Ext.refl _ | refine Ext.app ?_ _)) only [go_sem]; with_reducible rfl))))
    exact fin_2 ⟨by rw [ec2]; rfl, xK2⟩
  have hi' : i < l.length := by omega
  have e1 : (G2 ++ ([] : AHeap)).length = G2.length := by simp
  (repeat (first | refine ya (by (with_reducible constructor) <;> first | rfl | decide) ?_ | (apply yd; simp (disch := first | exact List.all_nil | omega | (simp only [go_sem]; done) | (simp only [ln, List.length_map]; omega) | (repeat' first | assumption | exact Ext.refl _ | refine Ext.app ?_ _)) only [go_sem, hll.len, hll.idx, hll.load, store_new2]; with_reducible rfl)))
  have b7 : (H' ++ [AObj.cells true 0 [.int .i64 (l.getD i (0, 0)).1, .int .i64 (l.getD i (0, 0)).2]])[H'.length]? = some (.cells true 0 [.int .i64 (l.getD i (0, 0)).1, .int .i64 (l.getD i (0, 0)).2]) := at_new
  have b5 := at_app (N := [AObj.cells true 0 [.int .i64 (l.getD i (0, 0)).1, .int .i64 (l.getD i (0, 0)).2]]) b5
  have hK := hK.app [AObj.cells true 0 [.int .i64 (l.getD i (0, 0)).1, .int .i64 (l.getD i (0, 0)).2]]
  have xK2 := xK2.app [AObj.cells true 0 [.int .i64 (l.getD i (0, 0)).1, .int .i64 (l.getD i (0, 0)).2]]
  have l7 := hK.1
  generalize (H' ++ [AObj.cells true 0 [.int .i64 (l.getD i (0, 0)).1, .int .i64 (l.getD i (0, 0)).2]] : AHeap) = H1 at b7 b5 hK xK2 l7
  refine awp_mid [false, true, false, false, false, true, true, true, true, false, false, false, false, false, false, false, false, false, false, false, false, false, false, false, false, false, true, true, true, false, false, false, false, false, false, false, false, false, false, false, false, false, false, false, false, false, false, false, false, false, false, false, false, false, false, false, false, false, false, false, false, false, false] (fun e J => (∃ N, J = H1 ++ N) ∧ e = [junk, .pointer (some ⟨H.length, 0, none⟩), junk, junk, junk, .pointer (some ⟨G2.length, 0, none⟩), .int .i64 i, .pointer (some ⟨H'.length, 0, none⟩), .int .i64 (nodeE (prevAt l i) (l.getD i (0, 0))), junk, junk, junk, junk, junk, junk, junk, junk, junk, junk, junk, junk, junk, junk, junk, junk, junk, v, .int .i64 (l.length : Nat), .int .i64 i, junk, junk, junk, junk, junk, junk, junk, junk, junk, junk, junk, junk, junk, junk, junk, junk, junk, junk, junk, junk, junk, junk, junk, junk, junk, junk, junk, junk, junk, junk, junk, junk, junk, junk]) ?_ ?_
  · generalize l.getD i (0, 0) = n at *
    generalize prevAt l i = p at *
    ((repeat (first | refine ya (by (with_reducible constructor) <;> first | rfl | decide) ?_ | apply yb | refine yc rfl ?_ | ((first | apply yd | apply ye); simp (disch := first | exact List.all_nil | omega | (simp only [go_sem]; done) | (simp only [ln, List.length_map]; omega) | (repeat' first | assumption | exact Ext.refl _ | refine Ext.app ?_ _)) only [go_sem, load_at b7]; with_reducible rfl))))
    refine adraw_call (N := []) (firstD (isPosition_c _)) ?_
    rw [List.append_nil]
    by_cases hp : 0 ≤ n.1 ∧ n.1 ≤ 1000000
    · ((repeat (first | refine ya (by (with_reducible constructor) <;> first | rfl | decide) ?_ | apply yb | refine yc rfl ?_ | ((first | apply yd | apply ye); simp (disch := first | exact List.all_nil | omega | (simp only [go_sem]; done) | (simp only [ln, List.length_map]; omega) | (repeat' first | assumption | exact Ext.refl _ | refine Ext.app ?_ _)) only [go_sem, dec_t hp, load_at b7]; with_reducible rfl))))
      refine adraw_call (N := []) (firstD (isTime_c _)) ?_
      rw [List.append_nil]
      ((repeat (first | refine ya (by (with_reducible constructor) <;> first | rfl | decide) ?_ | apply yb | refine yc rfl ?_ | ((first | apply yd | apply ye); simp (disch := first | exact List.all_nil | omega | (simp only [go_sem]; done) | (simp only [ln, List.length_map]; omega) | (repeat' first | assumption | exact Ext.refl _ | refine Ext.app ?_ _)) only [go_sem, dec_t hp]; with_reducible rfl))))
      refine adraw_call (N := []) (firstD (sunless_c _ _)) ?_
      rw [List.append_nil]
      by_cases hq : p.1 < n.1
      · ((repeat (first | refine ya (by (with_reducible constructor) <;> first | rfl | decide) ?_ | apply yb | refine yc rfl ?_ | ((first | apply yd | apply ye); simp (disch := first | exact List.all_nil | omega | (simp only [go_sem]; done) | (simp only [ln, List.length_map]; omega) | (repeat' first | assumption | exact Ext.refl _ | refine Ext.app ?_ _)) only [go_sem, load_at b7, load_at b5, dec_t hq]; with_reducible rfl))))
        refine adraw_call (N := []) (firstD (sunless_c _ _)) ?_
        rw [List.append_nil]
        ((repeat (first | refine ya (by (with_reducible constructor) <;> first | rfl | decide) ?_ | apply yb | refine yc rfl ?_ | ((first | apply yd | apply ye); simp (disch := first | exact List.all_nil | omega | (simp only [go_sem]; done) | (simp only [ln, List.length_map]; omega) | (repeat' first | assumption | exact Ext.refl _ | refine Ext.app ?_ _)) only [go_sem, dec_t hq]; with_reducible rfl))))
        refine adraw_call (N := []) (firstD (sfirst_c (l := [_, _]) (Ints.last (l := [_, _]) 2) (by simp))) ?_
        rw [List.append_nil]
        ((repeat (first | refine ya (by (with_reducible constructor) <;> first | rfl | decide) ?_ | apply yb | refine yc rfl ?_ | ((first | apply yd | apply ye); simp (disch := first | exact List.all_nil | omega | (simp only [go_sem]; done) | (simp only [ln, List.length_map]; omega) | (repeat' first | assumption | exact Ext.refl _ | refine Ext.app ?_ _)) only [go_sem]; with_reducible rfl))))
        refine ⟨rfl, ⟨_, rfl⟩, ?_⟩
        first | (simp [forget, ← node_E, hp, hq]; done) | simp [forget, ← node_E, hp, hq, firstErr]
      · ((repeat (first | refine ya (by (with_reducible constructor) <;> first | rfl | decide) ?_ | apply yb | refine yc rfl ?_ | ((first | apply yd | apply ye); simp (disch := first | exact List.all_nil | omega | (simp only [go_sem]; done) | (simp only [ln, List.length_map]; omega) | (repeat' first | assumption | exact Ext.refl _ | refine Ext.app ?_ _)) only [go_sem, load_at b7, load_at b5, dec_f hq]; with_reducible rfl))))
        refine adraw_call (N := []) (firstD (sunless_c _ _)) ?_
        rw [List.append_nil]
        ((repeat (first | refine ya (by (with_reducible constructor) <;> first | rfl | decide) ?_ | apply yb | refine yc rfl ?_ | ((first | apply yd | apply ye); simp (disch := first | exact List.all_nil | omega | (simp only [go_sem]; done) | (simp only [ln, List.length_map]; omega) | (repeat' first | assumption | exact Ext.refl _ | refine Ext.app ?_ _)) only [go_sem, dec_f hq]; with_reducible rfl))))
        refine adraw_call (N := []) (firstD (sfirst_c (l := [_, _]) (Ints.last (l := [_, _]) 2) (by simp))) ?_
        rw [List.append_nil]
        ((repeat (first | refine ya (by (with_reducible constructor) <;> first | rfl | decide) ?_ | apply yb | refine yc rfl ?_ | ((first | apply yd | apply ye); simp (disch := first | exact List.all_nil | omega | (simp only [go_sem]; done) | (simp only [ln, List.length_map]; omega) | (repeat' first | assumption | exact Ext.refl _ | refine Ext.app ?_ _)) only [go_sem]; with_reducible rfl))))
        refine ⟨rfl, ⟨_, rfl⟩, ?_⟩
        first | (simp [forget, ← node_E, hp, hq]; done) | simp [forget, ← node_E, hp, hq, firstErr]
    · ((repeat (first | refine ya (by (with_reducible constructor) <;> first | rfl | decide) ?_ | apply yb | refine yc rfl ?_ | ((first | apply yd | apply ye); simp (disch := first | exact List.all_nil | omega | (simp only [go_sem]; done) | (simp only [ln, List.length_map]; omega) | (repeat' first | assumption | exact Ext.refl _ | refine Ext.app ?_ _)) only [go_sem, dec_f hp]; with_reducible rfl))))
      refine adraw_call (N := []) (firstD (sunless_c _ _)) ?_
      rw [List.append_nil]
      by_cases hq : p.1 < n.1
      · ((repeat (first | refine ya (by (with_reducible constructor) <;> first | rfl | decide) ?_ | apply yb | refine yc rfl ?_ | ((first | apply yd | apply ye); simp (disch := first | exact List.all_nil | omega | (simp only [go_sem]; done) | (simp only [ln, List.length_map]; omega) | (repeat' first | assumption | exact Ext.refl _ | refine Ext.app ?_ _)) only [go_sem, load_at b7, load_at b5, dec_t hq]; with_reducible rfl))))
        refine adraw_call (N := []) (firstD (sunless_c _ _)) ?_
        rw [List.append_nil]
        ((repeat (first | refine ya (by (with_reducible constructor) <;> first | rfl | decide) ?_ | apply yb | refine yc rfl ?_ | ((first | apply yd | apply ye); simp (disch := first | exact List.all_nil | omega | (simp only [go_sem]; done) | (simp only [ln, List.length_map]; omega) | (repeat' first | assumption | exact Ext.refl _ | refine Ext.app ?_ _)) only [go_sem, dec_t hq]; with_reducible rfl))))
        refine adraw_call (N := []) (firstD (sfirst_c (l := [_, _]) (Ints.last (l := [_, _]) 2) (by simp))) ?_
        rw [List.append_nil]
        ((repeat (first | refine ya (by (with_reducible constructor) <;> first | rfl | decide) ?_ | apply yb | refine yc rfl ?_ | ((first | apply yd | apply ye); simp (disch := first | exact List.all_nil | omega | (simp only [go_sem]; done) | (simp only [ln, List.length_map]; omega) | (repeat' first | assumption | exact Ext.refl _ | refine Ext.app ?_ _)) only [go_sem]; with_reducible rfl))))
        refine ⟨rfl, ⟨_, rfl⟩, ?_⟩
        first | (simp [forget, ← node_E, hp, hq]; done) | simp [forget, ← node_E, hp, hq, firstErr]
      · ((repeat (first | refine ya (by (with_reducible constructor) <;> first | rfl | decide) ?_ | apply yb | refine yc rfl ?_ | ((first | apply yd | apply ye); simp (disch := first | exact List.all_nil | omega | (simp only [go_sem]; done) | (simp only [ln, List.length_map]; omega) | (repeat' first | assumption | exact Ext.refl _ | refine Ext.app ?_ _)) only [go_sem, load_at b7, load_at b5, dec_f hq]; with_reducible rfl))))
        refine adraw_call (N := []) (firstD (sunless_c _ _)) ?_
        rw [List.append_nil]
        ((repeat (first | refine ya (by (with_reducible constructor) <;> first | rfl | decide) ?_ | apply yb | refine yc rfl ?_ | ((first | apply yd | apply ye); simp (disch := first | exact List.all_nil | omega | (simp only [go_sem]; done) | (simp only [ln, List.length_map]; omega) | (repeat' first | assumption | exact Ext.refl _ | refine Ext.app ?_ _)) only [go_sem, dec_f hq]; with_reducible rfl))))
        refine adraw_call (N := []) (firstD (sfirst_c (l := [_, _]) (Ints.last (l := [_, _]) 2) (by simp))) ?_
        rw [List.append_nil]
        ((repeat (first | refine ya (by (with_reducible constructor) <;> first | rfl | decide) ?_ | apply yb | refine yc rfl ?_ | ((first | apply yd | apply ye); simp (disch := first | exact List.all_nil | omega | (simp only [go_sem]; done) | (simp only [ln, List.length_map]; omega) | (repeat' first | assumption | exact Ext.refl _ | refine Ext.app ?_ _)) only [go_sem]; with_reducible rfl))))
        refine ⟨rfl, ⟨_, rfl⟩, ?_⟩
        first | (simp [forget, ← node_E, hp, hq]; done) | simp [forget, ← node_E, hp, hq, firstErr]
  rintro e J ⟨⟨N, rfl⟩, rfl⟩
  have b7 := at_app (N := N) b7
  have b5 := at_app (N := N) b5
  have hK := hK.app N
  have xK2 := xK2.app N
  by_cases he : nodeE (prevAt l i) (l.getD i (0, 0)) = 0
  · ((repeat (first | refine ya (by (with_reducible constructor) <;> first | rfl | decide) ?_ | apply yb | refine yc rfl ?_ | ((first | apply yd | apply ye); simp (disch := first | exact List.all_nil | omega | (simp only [go_sem]; done) | (simp only [ln, List.length_map]; omega) | (repeat' first | assumption | exact Ext.refl _ | refine Ext.app ?_ _)) only [go_sem, dec_f (show ¬ nodeE (prevAt l i) (l.getD i (0, 0)) ≠ 0 by rw [he]; simp)]; with_reducible rfl))))
    refine cond_f rfl ?_
    ((repeat (first | refine ya (by (with_reducible constructor) <;> first | rfl | decide) ?_ | apply yb | refine yc rfl ?_ | ((first | apply yd | apply ye); simp (disch := first | exact List.all_nil | omega | (simp only [go_sem]; done) | (simp only [ln, List.length_map]; omega) | (repeat' first | assumption | exact Ext.refl _ | refine Ext.app ?_ _)) only [go_sem, n2_at b7, store_b2 b5]; with_reducible rfl))))
    refine ⟨by omega, by simp [forget], hK.set (.inl rfl) _, ?_, fun j hj2 => ?_⟩
    · rw [prevAt_succ]; exact get_set_self b5
    · by_cases e : j = i
      · subst e; exact he
      · exact hj j (by omega)
  · rw [ckGo_at hi', if_pos he] at ec2
    ((repeat (first | refine ya (by (with_reducible constructor) <;> first | rfl | decide) ?_ | apply yb | refine yc rfl ?_ | ((first | apply yd | apply ye); simp (disch := first | exact List.all_nil | omega | (simp only [go_sem]; done) | (simp only [ln, List.length_map]; omega) | (repeat' first | assumption | exact Ext.refl _ | refine Ext.app ?_ _)) only [go_sem, dec_t (show nodeE (prevAt l i) (l.getD i (0, 0)) ≠ 0 from he)]; with_reducible rfl))))
    refine cond_t rfl ?_
    ((repeat (first | refine ya (by (with_reducible constructor) <;> first | rfl | decide) ?_ | apply yb | refine yc rfl ?_ | ((first | apply yd | apply ye); simp (disch := first | exact List.all_nil | omega | (simp only [go_sem]; done) | (simp only [ln, List.length_map]; omega) | (repeat' first | assumption | exact Ext.refl _ | refine Ext.app ?_ _)) only [go_sem]; with_reducible rfl))))
    exact fin_2 ⟨by rw [ec2]; rfl, xK2⟩
end
end Go.Lq

namespace Go.Lq
open Go
open Go.Proofs

section
variable {H : AHeap}
set_option maxHeartbeats 4000000 in
theorem spMapErr_c {l : List (Int × Int)} {s v : Value} (hv : Sl H 1 1 [s] v) (hl : Pairs H l s) (hb : l.length ≤ 1000000000) : ACall Go.Proofs.Tryd.prog 106 [v] H fun w H' => w = .int .i64 (mapErrL l) ∧ H' = H := by
  refine ACall.drop (.int _ _) ?_
  (refine a106 ?_; simp only [n106, List.replicate, List.length_cons, List.length_nil, List.cons_append, List.nil_append]; first | refine q1 ?_ | refine q2 ?_ | refine q6 ?_ | refine q7 ?_ | refine qh rfl ?_ | skip)
  ((repeat (first | refine ya (by (with_reducible constructor) <;> first | rfl | decide) ?_ | apply yb | refine yc rfl ?_ | ((first | apply yd | apply ye); simp (disch := first | exact List.all_nil | omega | (simp only [go_sem]; done) | (simp only [ln, List.length_map]; omega) | (repeat' first | assumption | exact Ext.refl _ | refine Ext.app ?_ _)) only [go_sem, hv.len]; with_reducible rfl))))
  refine awp_loop_n [false, false, false, false, false, false, false, true, true, true, false, false, false, false, false, false, false, false, false, false, false, false] 1 (fun i e H' => Ext H H' ∧ (i = 1 → mapErrL l = 0) ∧ e = [junk, junk, junk, junk, junk, junk, junk, v, .int .i64 ((1 : Nat) : Int), .int .i64 i, junk, junk, junk, junk, junk, junk, junk, junk, junk, junk, junk, junk]) ?_ ?_
  · exact ⟨Ext.refl _, fun h => by omega, by simp [forget]⟩
  rintro i e H' hi ⟨x1, hz, rfl⟩
  ((repeat (first | refine ya (by (with_reducible constructor) <;> first | rfl | decide) ?_ | apply yb | refine yc rfl ?_ | ((first | apply yd | apply ye); simp (disch := first | exact List.all_nil | omega | (simp only [go_sem]; done) | (simp only [ln, List.length_map]; omega) | (repeat' first | assumption | exact Ext.refl _ | refine Ext.app ?_ _)) only [go_sem]; with_reducible rfl))))
  refine cond_p rfl (fun hlt => ?_) (fun hge => ?_)
  rotate_left 1
  · obtain rfl : i = 1 := by omega
    ((repeat (first | refine ya (by (with_reducible constructor) <;> first | rfl | decide) ?_ | apply yb | refine yc rfl ?_ | ((first | apply yd | apply ye); simp (disch := first | exact List.all_nil | omega | (simp only [go_sem]; done) | (simp only [ln, List.length_map]; omega) | (repeat' first | assumption | exact Ext.refl _ | refine Ext.app ?_ _)) only [go_sem]; with_reducible rfl))))
    exact fin_1 ⟨by rw [hz rfl]; rfl, x1⟩
  obtain rfl : i = 0 := by omega
  have h1 : ∀ J : AHeap, idxR 1 v (.int .i64 ((0 : Nat) : Int)) J = some (addrOf v 0, J) := fun J => by
    have := hv.idx (i := 0) (k := .i64) (H' := J) (by omega) (by omega)
    simpa using this
  have h2 : loadNR 1 (addrOf v 0) H' = some (.agg ⟨[s]⟩, H') := by
    have := Sl.loadN (k := 0) (m := 1) hv x1 (by omega) (by omega)
    simpa using this
  have hst : storeR 1 (.pointer (some ⟨H'.length, 0, none⟩)) (.agg ⟨[s]⟩) (H' ++ [AObj.cells true 0 [.slice none 0 0]]) = some (undef, H' ++ [AObj.cells true 0 [s]]) := store_newN (by simp [hl.atom]) rfl rfl
  have b4 : (H' ++ [AObj.cells true 0 [s]])[H'.length]? = some (.cells true 0 [s]) := at_new
  have x2 := x1.app [AObj.cells true 0 [s]]
  ((repeat (first | refine ya (by (with_reducible constructor) <;> first | rfl | decide) ?_ | apply yb | refine yc rfl ?_ | ((first | apply yd | apply ye); simp (disch := first | exact List.all_nil | omega | (simp only [go_sem]; done) | (simp only [ln, List.length_map]; omega) | (repeat' first | assumption | exact Ext.refl _ | refine Ext.app ?_ _)) only [go_sem, h1, h2, hst, n1_at b4]; with_reducible rfl))))
  refine aops_call_to (spCheckMap_c (hl.ext x2) hb) ?_
  ((repeat (first | refine ya (by (with_reducible constructor) <;> first | rfl | decide) ?_ | apply yb | refine yc rfl ?_ | ((first | apply yd | apply ye); simp (disch := first | exact List.all_nil | omega | (simp only [go_sem]; done) | (simp only [ln, List.length_map]; omega) | (repeat' first | assumption | exact Ext.refl _ | refine Ext.app ?_ _)) only [go_sem]; with_reducible rfl))))
  refine cond_p rfl (fun hne => ?_) (fun heq => ?_)
  · ((repeat (first | refine ya (by (with_reducible constructor) <;> first | rfl | decide) ?_ | apply yb | refine yc rfl ?_ | ((first | apply yd | apply ye); simp (disch := first | exact List.all_nil | omega | (simp only [go_sem]; done) | (simp only [ln, List.length_map]; omega) | (repeat' first | assumption | exact Ext.refl _ | refine Ext.app ?_ _)) only [go_sem]; with_reducible rfl))))
    exact fin_1 ⟨rfl, x2⟩
  · ((repeat (first | refine ya (by (with_reducible constructor) <;> first | rfl | decide) ?_ | apply yb | refine yc rfl ?_ | ((first | apply yd | apply ye); simp (disch := first | exact List.all_nil | omega | (simp only [go_sem]; done) | (simp only [ln, List.length_map]; omega) | (repeat' first | assumption | exact Ext.refl _ | refine Ext.app ?_ _)) only [go_sem]; with_reducible rfl))))
    exact ⟨by omega, x2, fun _ => Decidable.not_not.1 heq, by simp [forget]⟩

set_option maxHeartbeats 4000000 in
theorem rCheckMap_c {l : List (Int × Int)} {v : Value} (hl : Pairs H l v) (hb : l.length ≤ 1000000000) : ACall Go.Proofs.Tryd.prog 105 [.agg ⟨[v]⟩] H fun w H' => w = .tuple #[.int .i64 (ckMap l).1, .int .i64 (ckMap l).2] ∧ H' = H := by
  refine ACall.drop (closed_two _ _) ?_
  (refine a105 ?_; simp only [n105, List.replicate, List.length_cons, List.length_nil, List.cons_append, List.nil_append]; first | refine q1 ?_ | refine q2 ?_ | refine q6 ?_ | refine q7 ?_ | refine qh rfl ?_ | skip)
  have g0 : (H ++ [AObj.cells true 0 [v]])[H.length]? = some (.cells true 0 [v]) := at_new
  have xG : Ext H (H ++ [AObj.cells true 0 [v]]) := (Ext.refl H).app _
  ((repeat (first | refine ya (by (with_reducible constructor) <;> first | rfl | decide) ?_ | apply yb | refine yc rfl ?_ | ((first | apply yd | apply ye); simp (disch := first | exact List.all_nil | omega | (simp only [go_sem]; done) | (simp only [ln, List.length_map]; omega) | (repeat' first | assumption | exact Ext.refl _ | refine Ext.app ?_ _)) only [go_sem, hl.box1]; with_reducible rfl))))
  generalize (H ++ [AObj.cells true 0 [v]] : AHeap) = G at g0 xG
  have hl1 := hl.ext xG
  by_cases h2 : l.length < 2
  · have ec : ckMap l = (0, 10) := by unfold ckMap; rw [if_pos h2]
    rw [ec]
    ((repeat (first | refine ya (by (with_reducible constructor) <;> first | rfl | decide) ?_ | apply yb | refine yc rfl ?_ | ((first | apply yd | apply ye); simp (disch := first | exact List.all_nil | omega | (simp only [go_sem]; done) | (simp only [ln, List.length_map]; omega) | (repeat' first | assumption | exact Ext.refl _ | refine Ext.app ?_ _)) only [go_sem, hl1.len, hl1.idx, hl1.load, load_at g0, dec_t (show (l.length : Int) < 2 by omega)]; with_reducible rfl))))
    refine cond_t rfl ?_
    ((repeat (first | refine ya (by (with_reducible constructor) <;> first | rfl | decide) ?_ | apply yb | refine yc rfl ?_ | ((first | apply yd | apply ye); simp (disch := first | exact List.all_nil | omega | (simp only [go_sem]; done) | (simp only [ln, List.length_map]; omega) | (repeat' first | assumption | exact Ext.refl _ | refine Ext.app ?_ _)) only [go_sem]; with_reducible rfl))))
    exact fin_2 ⟨rfl, xG⟩
  ((repeat (first | refine ya (by (with_reducible constructor) <;> first | rfl | decide) ?_ | apply yb | refine yc rfl ?_ | ((first | apply yd | apply ye); simp (disch := first | exact List.all_nil | omega | (simp only [go_sem]; done) | (simp only [ln, List.length_map]; omega) | (repeat' first | assumption | exact Ext.refl _ | refine Ext.app ?_ _)) only [go_sem, hl1.len, hl1.idx, hl1.load, load_at g0, dec_f (show ¬ (l.length : Int) < 2 by omega)]; with_reducible rfl))))
  refine cond_f rfl ?_
  by_cases h20 : 20 < l.length
  · have ec : ckMap l = (0, 8) := by unfold ckMap; rw [if_neg h2, if_pos h20]
    rw [ec]
    ((repeat (first | refine ya (by (with_reducible constructor) <;> first | rfl | decide) ?_ | apply yb | refine yc rfl ?_ | ((first | apply yd | apply ye); simp (disch := first | exact List.all_nil | omega | (simp only [go_sem]; done) | (simp only [ln, List.length_map]; omega) | (repeat' first | assumption | exact Ext.refl _ | refine Ext.app ?_ _)) only [go_sem, hl1.len, hl1.idx, hl1.load, load_at g0, dec_t (show (20 : Int) < (l.length : Int) by omega)]; with_reducible rfl))))
    refine cond_t rfl ?_
    ((repeat (first | refine ya (by (with_reducible constructor) <;> first | rfl | decide) ?_ | apply yb | refine yc rfl ?_ | ((first | apply yd | apply ye); simp (disch := first | exact List.all_nil | omega | (simp only [go_sem]; done) | (simp only [ln, List.length_map]; omega) | (repeat' first | assumption | exact Ext.refl _ | refine Ext.app ?_ _)) only [go_sem]; with_reducible rfl))))
    exact fin_2 ⟨rfl, xG⟩
  have ec : ckMap l = ckGo (-1, -1) 0 l := by unfold ckMap; rw [if_neg h2, if_neg h20]
  ((repeat (first | refine ya (by (with_reducible constructor) <;> first | rfl | decide) ?_ | apply yb | refine yc rfl ?_ | ((first | apply yd | apply ye); simp (disch := first | exact List.all_nil | omega | (simp only [go_sem]; done) | (simp only [ln, List.length_map]; omega) | (repeat' first | assumption | exact Ext.refl _ | refine Ext.app ?_ _)) only [go_sem, hl1.len, hl1.idx, hl1.load, load_at g0, dec_f (show ¬ (20 : Int) < (l.length : Int) by omega)]; with_reducible rfl))))
  refine cond_f rfl ?_
  ((repeat (first | refine ya (by (with_reducible constructor) <;> first | rfl | decide) ?_ | apply yb | refine yc rfl ?_ | ((first | apply yd | apply ye); simp (disch := first | exact List.all_nil | omega | (simp only [go_sem]; done) | (simp only [ln, List.length_map]; omega) | (repeat' first | assumption | exact Ext.refl _ | refine Ext.app ?_ _)) only [go_sem]; with_reducible rfl))))
  refine awp_loop_n [false, true, false, false, true, false, false, false, false, false, false, false, false, false, false, false, false, false, false, false, false, false, false, false, false, false, false, false, false, false, false, false, false, false, false, false, false, false, false, false, false, false, false, false, false, false, false, false, false, false, false, false, false, false, false, false, false, false, false, false, false, false, false, false] l.length (fun i e H' => Ext G H' ∧ e = [junk, .pointer (some ⟨H.length, 0, none⟩), junk, junk, .int .i64 i, junk, junk, junk, junk, junk, junk, junk, junk, junk, junk, junk, junk, junk, junk, junk, junk, junk, junk, junk, junk, junk, junk, junk, junk, junk, junk, junk, junk, junk, junk, junk, junk, junk, junk, junk, junk, junk, junk, junk, junk, junk, junk, junk, junk, junk, junk, junk, junk, junk, junk, junk, junk, junk, junk, junk, junk, junk, junk, junk] ∧ ∀ j, j < i → nodeE (prevAt l j) (l.getD j (0, 0)) = 0) ?_ ?_
  · exact ⟨Ext.refl _, by simp [forget], fun j hj => by omega⟩
  rintro i e H' hi ⟨x1, rfl, hj⟩
  have xK2 := xG.trans x1
  have hll := hl.ext xK2
  have b0 := x1.cell g0
  have ec2 := ckGo_from hj hi
  rw [← ec] at ec2
  ((repeat (first | refine ya (by (with_reducible constructor) <;> first | rfl | decide) ?_ | apply yb | refine yc rfl ?_ | ((first | apply yd | apply ye); simp (disch := first | exact List.all_nil | omega | (simp only [go_sem]; done) | (simp only [ln, List.length_map]; omega) | (repeat' first | assumption | exact Ext.refl _ | refine Ext.app ?_ _)) only [go_sem, hll.len, hll.idx, hll.load, load_at b0]; with_reducible rfl))))
  refine cond_p rfl (fun hlt => ?_) (fun hge => ?_)
  rotate_left 1
  · obtain rfl : i = l.length := by omega
    rw [ckGo_end] at ec2
    ((repeat (first | refine ya (by (with_reducible constructor) <;> first | rfl | decide) ?_ | apply yb | refine yc rfl ?_ | ((first | apply yd | apply ye); simp (disch := first | exact List.all_nil | omega | (simp only [go_sem]; done) | (simp only [ln, List.length_map]; omega) | (repeat' first | assumption | exact Ext.refl _ | refine Ext.app ?_ _)) only [go_sem]; with_reducible rfl))))
    exact fin_2 ⟨by rw [ec2]; rfl, xK2⟩
  have hi' : i < l.length := by omega
  rw [ckGo_at hi'] at ec2
  have b7 : (H' ++ [AObj.cells true 0 [.int .i64 (l.getD i (0, 0)).1, .int .i64 (l.getD i (0, 0)).2]])[H'.length]? = some (.cells true 0 [.int .i64 (l.getD i (0, 0)).1, .int .i64 (l.getD i (0, 0)).2]) := at_new
  have b0' := at_app (N := [AObj.cells true 0 [.int .i64 (l.getD i (0, 0)).1, .int .i64 (l.getD i (0, 0)).2]]) b0
  have x1' := x1.app [AObj.cells true 0 [.int .i64 (l.getD i (0, 0)).1, .int .i64 (l.getD i (0, 0)).2]]
  have xK3 := xG.trans x1'
  have hl3 := hl.ext xK3
  ((repeat (first | refine ya (by (with_reducible constructor) <;> first | rfl | decide) ?_ | apply yb | refine yc rfl ?_ | ((first | apply yd | apply ye); simp (disch := first | exact List.all_nil | omega | (simp only [go_sem]; done) | (simp only [ln, List.length_map]; omega) | (repeat' first | assumption | exact Ext.refl _ | refine Ext.app ?_ _)) only [go_sem, hll.len, hll.idx, hll.load, load_at b0, store_new2, load_at b7]; with_reducible rfl))))
  generalize (H' ++ [AObj.cells true 0 [.int .i64 (l.getD i (0, 0)).1, .int .i64 (l.getD i (0, 0)).2]] : AHeap) = H1 at b7 b0' x1' xK3 hl3
  refine aops_call_to (rIsPosition_c _) ?_
  by_cases hp : 0 ≤ (l.getD i (0, 0)).1 ∧ (l.getD i (0, 0)).1 ≤ 1000000
  rotate_left 1
  · rw [nodeE_r (fun h => hp h.1), if_pos (by decide)] at ec2
    ((repeat (first | refine ya (by (with_reducible constructor) <;> first | rfl | decide) ?_ | apply yb | refine yc rfl ?_ | ((first | apply yd | apply ye); simp (disch := first | exact List.all_nil | omega | (simp only [go_sem]; done) | (simp only [ln, List.length_map]; omega) | (repeat' first | assumption | exact Ext.refl _ | refine Ext.app ?_ _)) only [go_sem, dec_f hp]; with_reducible rfl))))
    refine cond_t rfl ?_
    ((repeat (first | refine ya (by (with_reducible constructor) <;> first | rfl | decide) ?_ | apply yb | refine yc rfl ?_ | ((first | apply yd | apply ye); simp (disch := first | exact List.all_nil | omega | (simp only [go_sem]; done) | (simp only [ln, List.length_map]; omega) | (repeat' first | assumption | exact Ext.refl _ | refine Ext.app ?_ _)) only [go_sem]; with_reducible rfl))))
    exact fin_2 ⟨by rw [ec2]; rfl, xK3⟩
  ((repeat (first | refine ya (by (with_reducible constructor) <;> first | rfl | decide) ?_ | apply yb | refine yc rfl ?_ | ((first | apply yd | apply ye); simp (disch := first | exact List.all_nil | omega | (simp only [go_sem]; done) | (simp only [ln, List.length_map]; omega) | (repeat' first | assumption | exact Ext.refl _ | refine Ext.app ?_ _)) only [go_sem, dec_t hp, load_at b7]; with_reducible rfl))))
  refine aops_call_to (rIsTick_c _) ?_
  by_cases ht : 0 ≤ (l.getD i (0, 0)).2 ∧ (l.getD i (0, 0)).2 ≤ 1000000000000
  rotate_left 1
  · rw [nodeE_r (fun h => ht h.2), if_pos (by decide)] at ec2
    ((repeat (first | refine ya (by (with_reducible constructor) <;> first | rfl | decide) ?_ | apply yb | refine yc rfl ?_ | ((first | apply yd | apply ye); simp (disch := first | exact List.all_nil | omega | (simp only [go_sem]; done) | (simp only [ln, List.length_map]; omega) | (repeat' first | assumption | exact Ext.refl _ | refine Ext.app ?_ _)) only [go_sem, dec_t hp, dec_f ht]; with_reducible rfl))))
    refine cond_t rfl ?_
    ((repeat (first | refine ya (by (with_reducible constructor) <;> first | rfl | decide) ?_ | apply yb | refine yc rfl ?_ | ((first | apply yd | apply ye); simp (disch := first | exact List.all_nil | omega | (simp only [go_sem]; done) | (simp only [ln, List.length_map]; omega) | (repeat' first | assumption | exact Ext.refl _ | refine Ext.app ?_ _)) only [go_sem]; with_reducible rfl))))
    exact fin_2 ⟨by rw [ec2]; rfl, xK3⟩
  ((repeat (first | refine ya (by (with_reducible constructor) <;> first | rfl | decide) ?_ | apply yb | refine yc rfl ?_ | ((first | apply yd | apply ye); simp (disch := first | exact List.all_nil | omega | (simp only [go_sem]; done) | (simp only [ln, List.length_map]; omega) | (repeat' first | assumption | exact Ext.refl _ | refine Ext.app ?_ _)) only [go_sem, dec_t hp, dec_t ht]; with_reducible rfl))))
  refine cond_f rfl ?_
  have next : nodeE (prevAt l i) (l.getD i (0, 0)) = 0 → ∀ j, j < i + 1 → nodeE (prevAt l j) (l.getD j (0, 0)) = 0 := fun he j hj2 => by
    by_cases e : j = i
    · subst e; exact he
    · exact hj j (by omega)
  by_cases h0 : i = 0
  · subst h0
    have hz : nodeE (prevAt l 0) (l.getD 0 (0, 0)) = 0 := nodeE_z ⟨hp, ht⟩ ⟨show (-1 : Int) < _ by omega, show (-1 : Int) < _ by omega⟩
    ((repeat (first | refine ya (by (with_reducible constructor) <;> first | rfl | decide) ?_ | apply yb | refine yc rfl ?_ | ((first | apply yd | apply ye); simp (disch := first | exact List.all_nil | omega | (simp only [go_sem]; done) | (simp only [ln, List.length_map]; omega) | (repeat' first | assumption | exact Ext.refl _ | refine Ext.app ?_ _)) only [go_sem, dec_f (show ¬ (0 : Int) < ((0 : Nat) : Int) by decide)]; with_reducible rfl))))
    refine cond_f rfl ?_
    ((repeat (first | refine ya (by (with_reducible constructor) <;> first | rfl | decide) ?_ | apply yb | refine yc rfl ?_ | ((first | apply yd | apply ye); simp (disch := first | exact List.all_nil | omega | (simp only [go_sem]; done) | (simp only [ln, List.length_map]; omega) | (repeat' first | assumption | exact Ext.refl _ | refine Ext.app ?_ _)) only [go_sem]; with_reducible rfl))))
    exact ⟨by omega, x1', by simp [forget], next hz⟩
  have hpr : prevAt l i = l.getD (i - 1) (0, 0) := by unfold prevAt; rw [if_neg h0]
  rw [hpr] at ec2 next
  have ei : ((i : Int) - 1).toNat = i - 1 := by omega
  by_cases hq : (l.getD i (0, 0)).1 ≤ (l.getD (i - 1) (0, 0)).1
  · rw [nodeE_o ⟨hp, ht⟩ (fun h => by omega), if_pos (by decide)] at ec2
    ((repeat (first | refine ya (by (with_reducible constructor) <;> first | rfl | decide) ?_ | apply yb | refine yc rfl ?_ | ((first | apply yd | apply ye); simp (disch := first | exact List.all_nil | omega | (simp only [go_sem]; done) | (simp only [ln, List.length_map]; omega) | (repeat' first | assumption | exact Ext.refl _ | refine Ext.app ?_ _)) only [go_sem, hl3.len, hl3.idx, hl3.load, dec_t (show (0 : Int) < (i : Int) by omega), load_at b7, load_at b0', ei, dec_t hq]; with_reducible rfl))))
    refine cond_t rfl ?_
    ((repeat (first | refine ya (by (with_reducible constructor) <;> first | rfl | decide) ?_ | apply yb | refine yc rfl ?_ | ((first | apply yd | apply ye); simp (disch := first | exact List.all_nil | omega | (simp only [go_sem]; done) | (simp only [ln, List.length_map]; omega) | (repeat' first | assumption | exact Ext.refl _ | refine Ext.app ?_ _)) only [go_sem]; with_reducible rfl))))
    exact fin_2 ⟨by rw [ec2]; rfl, xK3⟩
  by_cases hr : (l.getD i (0, 0)).2 ≤ (l.getD (i - 1) (0, 0)).2
  · rw [nodeE_o ⟨hp, ht⟩ (fun h => by omega), if_pos (by decide)] at ec2
    ((repeat (first | refine ya (by (with_reducible constructor) <;> first | rfl | decide) ?_ | apply yb | refine yc rfl ?_ | ((first | apply yd | apply ye); simp (disch := first | exact List.all_nil | omega | (simp only [go_sem]; done) | (simp only [ln, List.length_map]; omega) | (repeat' first | assumption | exact Ext.refl _ | refine Ext.app ?_ _)) only [go_sem, hl3.len, hl3.idx, hl3.load, dec_t (show (0 : Int) < (i : Int) by omega), load_at b7, load_at b0', ei, dec_f hq, dec_t hr]; with_reducible rfl))))
    refine cond_t rfl ?_
    ((repeat (first | refine ya (by (with_reducible constructor) <;> first | rfl | decide) ?_ | apply yb | refine yc rfl ?_ | ((first | apply yd | apply ye); simp (disch := first | exact List.all_nil | omega | (simp only [go_sem]; done) | (simp only [ln, List.length_map]; omega) | (repeat' first | assumption | exact Ext.refl _ | refine Ext.app ?_ _)) only [go_sem]; with_reducible rfl))))
    exact fin_2 ⟨by rw [ec2]; rfl, xK3⟩
  ((repeat (first | refine ya (by (with_reducible constructor) <;> first | rfl | decide) ?_ | apply yb | refine yc rfl ?_ | ((first | apply yd | apply ye); simp (disch := first | exact List.all_nil | omega | (simp only [go_sem]; done) | (simp only [ln, List.length_map]; omega) | (repeat' first | assumption | exact Ext.refl _ | refine Ext.app ?_ _)) only [go_sem, hl3.len, hl3.idx, hl3.load, dec_t (show (0 : Int) < (i : Int) by omega), load_at b7, load_at b0', ei, dec_f hq, dec_f hr]; with_reducible rfl))))
  refine cond_f rfl ?_
  ((repeat (first | refine ya (by (with_reducible constructor) <;> first | rfl | decide) ?_ | apply yb | refine yc rfl ?_ | ((first | apply yd | apply ye); simp (disch := first | exact List.all_nil | omega | (simp only [go_sem]; done) | (simp only [ln, List.length_map]; omega) | (repeat' first | assumption | exact Ext.refl _ | refine Ext.app ?_ _)) only [go_sem]; with_reducible rfl))))
  exact ⟨by omega, x1', by simp [forget], next (nodeE_z ⟨hp, ht⟩ ⟨by omega, by omega⟩)⟩
theorem rMapErr_c {l : List (Int × Int)} {v : Value} (hl : Pairs H l v) (hb : l.length ≤ 1000000000) : ACall Go.Proofs.Tryd.prog 48 [.agg ⟨[v]⟩] H fun w H' => w = .int .i64 (mapErrL l) ∧ H' = H := by
  refine ACall.drop (.int _ _) ?_
  (refine a48 ?_; simp only [n48, List.replicate, List.length_cons, List.length_nil, List.cons_append, List.nil_append]; first | refine q1 ?_ | refine q2 ?_ | refine q6 ?_ | refine q7 ?_ | refine qh rfl ?_ | skip)
  have g0 : (H ++ [AObj.cells true 0 [v]])[H.length]? = some (.cells true 0 [v]) := at_new
  have xG : Ext H (H ++ [AObj.cells true 0 [v]]) := (Ext.refl H).app _
  ((repeat (first | refine ya (by (with_reducible constructor) <;> first | rfl | decide) ?_ | apply yb | refine yc rfl ?_ | ((first | apply yd | apply ye); simp (disch := first | exact List.all_nil | omega | (simp only [go_sem]; done) | (simp only [ln, List.length_map]; omega) | (repeat' first | assumption | exact Ext.refl _ | refine Ext.app ?_ _)) only [go_sem, hl.box1, n1_at g0]; with_reducible rfl))))
  generalize (H ++ [AObj.cells true 0 [v]] : AHeap) = G at g0 xG
  refine aops_call_to (rCheckMap_c (hl.ext xG) hb) ?_
  ((repeat (first | refine ya (by (with_reducible constructor) <;> first | rfl | decide) ?_ | apply yb | refine yc rfl ?_ | ((first | apply yd | apply ye); simp (disch := first | exact List.all_nil | omega | (simp only [go_sem]; done) | (simp only [ln, List.length_map]; omega) | (repeat' first | assumption | exact Ext.refl _ | refine Ext.app ?_ _)) only [go_sem]; with_reducible rfl))))
  exact fin_1 ⟨rfl, xG⟩
end
end Go.Lq

namespace Go.Lq
open Go
open Go.Proofs

def pieceV (p : (Int × Int) × (Int × Int)) : Value := .agg ⟨[.int .i64 p.1.1, .int .i64 p.1.2, .int .i64 p.2.1, .int .i64 p.2.2]⟩
def pieceC (p : (Int × Int) × (Int × Int)) : List Value := [.int .i64 p.1.1, .int .i64 p.1.2, .int .i64 p.2.1, .int .i64 p.2.2]
def piecesI (l : List (Int × Int)) (i : Nat) : Nat → List (List Value)
  | 0 => []
  | k + 1 => [.int .i64 i, pieceV (pieceOf l i)] :: piecesI l (i + 1) k
theorem box_piece {p : (Int × Int) × (Int × Int)} {H : AHeap} : boxR (pieceV p) H = some (.pointer (some ⟨H.length, 0, none⟩), H ++ [.cells true 0 (pieceC p)]) := box_agg rfl
theorem load_piece {G : AHeap} {id : Nat} {p : (Int × Int) × (Int × Int)} (h : G[id]? = some (.cells true 0 (pieceC p))) : loadNR 4 (.pointer (some ⟨id, 0, none⟩)) G = some (pieceV p, G) := loadN_at h (by simp [pieceC])
theorem store_new4 {H : AHeap} {p : (Int × Int) × (Int × Int)} {vs : List Value} (hl : vs.length = 4) : storeR 4 (.pointer (some ⟨H.length, 0, none⟩)) (pieceV p) (H ++ [.cells true 0 vs]) = some (undef, H ++ [.cells true 0 (pieceC p)]) := store_newN rfl (by rw [hl]; rfl) rfl
theorem store_at4 {H : AHeap} {id : Nat} {p q : (Int × Int) × (Int × Int)} (h : H[id]? = some (.cells true 0 (pieceC q))) : storeR 4 (.pointer (some ⟨id, 0, none⟩)) (pieceV p) H = some (undef, H.set id (.cells true 0 (pieceC p))) := by
  have e1 : (pieceV p).cells = ⟨pieceC p⟩ := rfl
  have e2 : (pieceC p).all isAtom = true := rfl
  simp only [storeR, e1, List.size_toArray, storeAt, h, e2]
  rfl
theorem piece_build {a b : Int × Int} : fillA [.int .i64 0, .int .i64 0, .int .i64 0, .int .i64 0] [(0, 2, .agg ⟨[.int .i64 a.1, .int .i64 a.2]⟩), (2, 2, .agg ⟨[.int .i64 b.1, .int .i64 b.2]⟩)] = some [.int .i64 a.1, .int .i64 a.2, .int .i64 b.1, .int .i64 b.2] := rfl
theorem fin_ll {c : RCode} {n a b m : Nat} {R : Value → AHeap → Prop} {e : Env} {H : AHeap} {u w : Value} (h1 : loadNR m (e.getD a undef) H = some (u, H)) (h2 : loadR (e.getD b undef) H = some (w, H)) (h : R (.tuple #[u, w]) H) :
    Fin ⟨c, n, [.loadN m a, .load b]⟩ R .ret e H := by
  refine ⟨.inr rfl, _, ?_, h⟩
  unfold loadNR at h1
  unfold loadR at h2
  split at h1
  · rename_i id off hp
    simp only [Option.map_eq_some_iff, Prod.mk.injEq, and_true] at h1
    obtain ⟨us, h3, rfl⟩ := h1
    split at h2
    · rename_i id' off' hp'
      simp only [Option.map_eq_some_iff, Prod.mk.injEq, and_true] at h2
      obtain ⟨us', h4, rfl⟩ := h2
      simp only [resultA, List.mapM_cons, resA, hp, h3, hp', h4, Option.map_some, List.mapM_nil]
      rfl
    · cases h2
  · cases h1

section
variable {H : AHeap}
theorem positions_c {p : (Int × Int) × (Int × Int)} (h : -1000000000000000 ≤ p.2.1 - p.1.1 ∧ p.2.1 - p.1.1 ≤ 1000000000000000) : ACall Go.Proofs.Tryd.prog 110 [pieceV p] H fun v H' => v = .int .i64 (p.2.1 - p.1.1) ∧ H' = H := by
  refine ACall.drop (.int _ _) ?_
  (refine a110 ?_; simp only [n110, List.replicate, List.length_cons, List.length_nil, List.cons_append, List.nil_append]; first | refine q1 ?_ | refine q2 ?_ | refine q6 ?_ | refine q7 ?_ | refine qh rfl ?_ | skip)
  have g0 : (H ++ [AObj.cells true 0 (pieceC p)])[H.length]? = some (.cells true 0 (pieceC p)) := at_new
  have xG : Ext H (H ++ [AObj.cells true 0 (pieceC p)]) := (Ext.refl H).app _
  ((repeat (first | refine ya (by (with_reducible constructor) <;> first | rfl | decide) ?_ | apply yb | refine yc rfl ?_ | ((first | apply yd | apply ye); simp (disch := first | exact List.all_nil | omega | (simp only [go_sem]; done) | (simp only [ln, List.length_map]; omega) | (repeat' first | assumption | exact Ext.refl _ | refine Ext.app ?_ _)) only [go_sem, box_piece, load_at g0, pieceC]; with_reducible rfl))))
  exact fin_1 ⟨rfl, xG⟩
theorem times_c {p : (Int × Int) × (Int × Int)} (h : -1000000000000000 ≤ p.2.2 - p.1.2 ∧ p.2.2 - p.1.2 ≤ 1000000000000000) : ACall Go.Proofs.Tryd.prog 142 [pieceV p] H fun v H' => v = .int .i64 (p.2.2 - p.1.2) ∧ H' = H := by
  refine ACall.drop (.int _ _) ?_
  (refine a142 ?_; simp only [n142, List.replicate, List.length_cons, List.length_nil, List.cons_append, List.nil_append]; first | refine q1 ?_ | refine q2 ?_ | refine q6 ?_ | refine q7 ?_ | refine qh rfl ?_ | skip)
  have g0 : (H ++ [AObj.cells true 0 (pieceC p)])[H.length]? = some (.cells true 0 (pieceC p)) := at_new
  have xG : Ext H (H ++ [AObj.cells true 0 (pieceC p)]) := (Ext.refl H).app _
  ((repeat (first | refine ya (by (with_reducible constructor) <;> first | rfl | decide) ?_ | apply yb | refine yc rfl ?_ | ((first | apply yd | apply ye); simp (disch := first | exact List.all_nil | omega | (simp only [go_sem]; done) | (simp only [ln, List.length_map]; omega) | (repeat' first | assumption | exact Ext.refl _ | refine Ext.app ?_ _)) only [go_sem, box_piece, load_at g0, pieceC]; with_reducible rfl))))
  exact fin_1 ⟨rfl, xG⟩
theorem pieces_c {l : List (Int × Int)} {v : Value} (hl : Pairs H l v) : ACall Go.Proofs.Tryd.prog 149 [.agg ⟨[v]⟩] H fun v1 H' =>
    v1 = .func (.func 153) #[] #[.pointer (some ⟨H.length, 0, none⟩)] ∧ H' = H ++ [.cells true 0 [v]] := by
  (refine a149 ?_; simp only [n149, List.replicate, List.length_cons, List.length_nil, List.cons_append, List.nil_append]; first | refine q1 ?_ | refine q2 ?_ | refine q6 ?_ | refine q7 ?_ | refine qh rfl ?_ | skip)
  ((repeat (first | refine ya (by (with_reducible constructor) <;> first | rfl | decide) ?_ | apply yb | refine yc rfl ?_ | ((first | apply yd | apply ye); simp (disch := first | exact List.all_nil | omega | (simp only [go_sem]; done) | (simp only [ln, List.length_map]; omega) | (repeat' first | assumption | exact Ext.refl _ | refine Ext.app ?_ _)) only [go_sem, hl.box1]; with_reducible rfl))))
  refine fin_1 ⟨?_, rfl⟩
  simp [go_sem]
def PieceF (idt : Nat) (l : List (Int × Int)) (v : Value) (H : AHeap) : Prop := H[idt]? = some (.cells true 0 [v]) ∧ Pairs H l v
set_option maxHeartbeats 4000000 in
theorem pieces1_c {idt : Nat} {l : List (Int × Int)} {v : Value} (h2 : 1 ≤ l.length) (hb : l.length ≤ 1000) :
    GenA Go.Proofs.Tryd.prog 153 [] [.pointer (some ⟨idt, 0, none⟩)] (PieceF idt l v) (piecesI l 0 (l.length - 1)) := by
  intro lp I S H hF hround hI0
  show ACall _ _ [.func (.yield lp) #[] #[], .pointer (some ⟨idt, 0, none⟩)] _ _
  obtain ⟨f1, f2⟩ := hF _ _ hI0
  (refine a153 ?_; simp only [n153, List.replicate, List.length_cons, List.length_nil, List.cons_append, List.nil_append]; first | refine q1 ?_ | refine q2 ?_ | refine q6 ?_ | refine q7 ?_ | refine qh rfl ?_ | skip)
  obtain ⟨n, hn⟩ : ∃ n, l.length - 1 = n := ⟨_, rfl⟩
  have en : (l.length : Int) - 1 = (n : Int) := by omega
  rw [hn] at hI0
  ((repeat (first | refine ya (by (with_reducible constructor) <;> first | rfl | decide) ?_ | apply yb | refine yc rfl ?_ | ((first | apply yd | apply ye); simp (disch := first | exact List.all_nil | omega | (simp only [go_sem]; done) | (simp only [ln, List.length_map]; omega) | (repeat' first | assumption | exact Ext.refl _ | refine Ext.app ?_ _)) only [go_sem, f2.len, f2.idx, f2.load, load_at f1, en]; with_reducible rfl))))
  refine awp_loop_n [true, true, false, false, false, false, false, true, true, false, false, false, false, false, false, false, false, false, false, false, false, false, false, false, false, false, false, false] n (fun i e H' => e = [.func (.yield lp) #[] #[], .pointer (some ⟨idt, 0, none⟩), junk, junk, junk, junk, junk, .int .i64 n, .int .i64 i, junk, junk, junk, junk, junk, junk, junk, junk, junk, junk, junk, junk, junk, junk, junk, junk, junk, junk, junk] ∧ I (piecesI l i (n - i)) H') ?_ ?_
  · exact ⟨by simp [forget], hI0⟩
  rintro i e H1 hi ⟨rfl, hI⟩
  obtain ⟨f1', f2'⟩ := hF _ _ hI
  ((repeat (first | refine ya (by (with_reducible constructor) <;> first | rfl | decide) ?_ | apply yb | refine yc rfl ?_ | ((first | apply yd | apply ye); simp (disch := first | exact List.all_nil | omega | (simp only [go_sem]; done) | (simp only [ln, List.length_map]; omega) | (repeat' first | assumption | exact Ext.refl _ | refine Ext.app ?_ _)) only [go_sem]; with_reducible rfl))))
  refine cond_p rfl (fun hlt => ?_) (fun hge => ?_)
  rotate_left 1
  · obtain rfl : i = n := by omega
    rw [Nat.sub_self] at hI
    ((repeat (first | refine ya (by (with_reducible constructor) <;> first | rfl | decide) ?_ | apply yb | refine yc rfl ?_ | ((first | apply yd | apply ye); simp (disch := first | exact List.all_nil | omega | (simp only [go_sem]; done) | (simp only [ln, List.length_map]; omega) | (repeat' first | assumption | exact Ext.refl _ | refine Ext.app ?_ _)) only [go_sem]; with_reducible rfl))))
    exact ⟨.inl rfl, undef, rfl, .inl hI⟩
  have hi' : i < n := by omega
  obtain ⟨k, hk⟩ : ∃ k, k = n - (i + 1) := ⟨_, rfl⟩
  rw [show n - i = k + 1 by omega] at hI
  have e1 : (i : Int) + 1 = ((i + 1 : Nat) : Int) := by omega
  ((repeat (first | refine ya (by (with_reducible constructor) <;> first | rfl | decide) ?_ | apply yb | refine yc rfl ?_ | ((first | apply yd | apply ye); simp (disch := first | exact List.all_nil | omega | (simp only [go_sem]; done) | (simp only [ln, List.length_map]; omega) | (repeat' first | assumption | exact Ext.refl _ | refine Ext.app ?_ _)) only [go_sem, f2'.len, f2'.idx, f2'.load, load_at f1', e1, piece_build]; with_reducible rfl))))
  refine adraw_callV ?_
  refine aops_call ((hround _ _ _ hI).mono fun v1 H3 h => ?_)
  rcases h with ⟨rfl, hI3⟩ | ⟨rfl, hS⟩
  · ((repeat (first | refine ya (by (with_reducible constructor) <;> first | rfl | decide) ?_ | apply yb | refine yc rfl ?_ | ((first | apply yd | apply ye); simp (disch := first | exact List.all_nil | omega | (simp only [go_sem]; done) | (simp only [ln, List.length_map]; omega) | (repeat' first | assumption | exact Ext.refl _ | refine Ext.app ?_ _)) only [go_sem]; with_reducible rfl))))
    refine cond_f rfl ?_
    ((repeat (first | refine ya (by (with_reducible constructor) <;> first | rfl | decide) ?_ | apply yb | refine yc rfl ?_ | ((first | apply yd | apply ye); simp (disch := first | exact List.all_nil | omega | (simp only [go_sem]; done) | (simp only [ln, List.length_map]; omega) | (repeat' first | assumption | exact Ext.refl _ | refine Ext.app ?_ _)) only [go_sem]; with_reducible rfl))))
    exact ⟨by omega, by simp [forget], by rw [← hk]; exact hI3⟩
  · ((repeat (first | refine ya (by (with_reducible constructor) <;> first | rfl | decide) ?_ | apply yb | refine yc rfl ?_ | ((first | apply yd | apply ye); simp (disch := first | exact List.all_nil | omega | (simp only [go_sem]; done) | (simp only [ln, List.length_map]; omega) | (repeat' first | assumption | exact Ext.refl _ | refine Ext.app ?_ _)) only [go_sem]; with_reducible rfl))))
    refine cond_t rfl ?_
    ((repeat (first | refine ya (by (with_reducible constructor) <;> first | rfl | decide) ?_ | apply yb | refine yc rfl ?_ | ((first | apply yd | apply ye); simp (disch := first | exact List.all_nil | omega | (simp only [go_sem]; done) | (simp only [ln, List.length_map]; omega) | (repeat' first | assumption | exact Ext.refl _ | refine Ext.app ?_ _)) only [go_sem]; with_reducible rfl))))
    exact ⟨.inr rfl, undef, rfl, .inr hS⟩
end
end Go.Lq

namespace Go.Lq
open Go
open Go.Proofs

def zeroP : (Int × Int) × (Int × Int) := ((0, 0), (0, 0))
def findR (o : Option Nat) (l : List (Int × Int)) : ((Int × Int) × (Int × Int)) × Bool := match o with | some i => (pieceOf l i, true) | none => (zeroP, false)
theorem closed_pieceB (p : (Int × Int) × (Int × Int)) (b : Bool) : Closed (.tuple #[pieceV p, .bool b]) := .tuple _ (closed_list (l := [pieceV p, .bool b]) fun v hv => by
  simp only [List.mem_cons, List.not_mem_nil, or_false] at hv
  rcases hv with rfl | rfl
  · exact .agg _ (closed_list (l := pieceC p) fun v hv => by
      simp only [pieceC, List.mem_cons, List.not_mem_nil, or_false] at hv
      rcases hv with rfl | rfl | rfl | rfl <;> exact .int _ _)
  · exact .bool _)

theorem load1 {H : AHeap} {id : Nat} {w : Value} (h : H[id]? = some (.cells true 0 [w])) : loadR (.pointer (some ⟨id, 0, none⟩)) H = some (w, H) := by rw [load_at h]; rfl
theorem findP_succ {p : (Int × Int) × (Int × Int) → Bool} {l : List (Int × Int)} {i k : Nat} : findP p l i (k + 1) = if p (pieceOf l i) = true then some i else findP p l (i + 1) k := rfl
section
variable {H : AHeap}
set_option maxHeartbeats 4000000 in
theorem find_c {l : List (Int × Int)} {v : Value} {g : FuncId} {ad : Addr} {p : (Int × Int) × (Int × Int) → Bool} (hl : Pairs H l v) (h2 : 1 ≤ l.length) (hb : l.length ≤ 1000)
    (hq : ∀ J, Ext H J → ∀ i, i < l.length - 1 → AInvoke Go.Proofs.Tryd.prog (.func (.func g) #[] #[.pointer (some ad)]) [pieceV (pieceOf l i)] J fun w H' => w = .bool (p (pieceOf l i)) ∧ H' = J) :
    ACall Go.Proofs.Tryd.prog 139 [.agg ⟨[v]⟩, .func (.func g) #[] #[.pointer (some ad)]] H fun w H' => w = .tuple #[pieceV (findR (findP p l 0 (l.length - 1)) l).1, .bool (findR (findP p l 0 (l.length - 1)) l).2] ∧ H' = H := by
  refine ACall.drop (closed_pieceB _ _) ?_
  obtain ⟨n, hn⟩ : ∃ n, l.length - 1 = n := ⟨_, rfl⟩
  rw [hn] at hq ⊢
  (refine a139 ?_; simp only [n139, List.replicate, List.length_cons, List.length_nil, List.cons_append, List.nil_append]; first | refine q1 ?_ | refine q2 ?_ | refine q6 ?_ | refine q7 ?_ | refine qh rfl ?_ | skip)
  obtain ⟨fv, hfv⟩ : ∃ fv, fv = Value.func (.func g) #[] #[.pointer (some ad)] := ⟨_, rfl⟩
  have hbf : ∀ J : AHeap, boxR fv J = some (.pointer (some ⟨J.length, 0, none⟩), J ++ [.cells true 0 [fv]]) := fun J => by rw [hfv]; rfl
  rw [← hfv] at hq ⊢
  obtain ⟨G, hG⟩ : ∃ G, G = H ++ [AObj.cells true 0 [v]] ++ [AObj.cells true 0 [fv]] ++ [AObj.cells true 0 [.int .i64 0, .int .i64 0, .int .i64 0, .int .i64 0]] ++ [AObj.cells true 0 [.bool false]] := ⟨_, rfl⟩
  have g0 : G[H.length]? = some (.cells true 0 [v]) := by rw [hG]; simp
  have g1 : G[H.length + 1]? = some (.cells true 0 [fv]) := by rw [hG]; simp
  have g2 : G[H.length + 2]? = some (.cells true 0 (pieceC zeroP)) := by rw [hG]; simp [pieceC, zeroP]
  have g3 : G[H.length + 3]? = some (.cells true 0 [.bool false]) := by rw [hG]; simp
  have xG : Ext H G := by rw [hG]; exact ((((Ext.refl H).app _).app _).app _).app _
  have lG : G.length = H.length + 4 := by rw [hG]; simp
  (repeat (first | refine ya (by (with_reducible constructor) <;> first | rfl | decide) ?_ | (apply yd; simp (disch := first | exact List.all_nil | omega | (simp only [go_sem]; done) | (simp only [ln, List.length_map]; omega) | (repeat' first | assumption | exact Ext.refl _ | refine Ext.app ?_ _)) only [go_sem, hl.box1, hbf]; with_reducible rfl)))
  (simp only [List.length_append, List.length_cons, List.length_nil, Nat.zero_add, Nat.add_assoc, Nat.reduceAdd])
  rw [← hG]
  clear hG
  have hlg := hl.ext xG
  ((repeat (first | refine ya (by (with_reducible constructor) <;> first | rfl | decide) ?_ | apply yb | refine yc rfl ?_ | ((first | apply yd | apply ye); simp (disch := first | exact List.all_nil | omega | (simp only [go_sem]; done) | (simp only [ln, List.length_map]; omega) | (repeat' first | assumption | exact Ext.refl _ | refine Ext.app ?_ _)) only [go_sem, n1_at g0]; with_reducible rfl))))
  refine aops_call ((pieces_c hlg).mono fun v1 G3 ⟨e1, e2⟩ => ?_)
  subst e1
  have x3 : Ext G G3 := ⟨_, e2⟩
  have xH3 := xG.trans x3
  have k4 : G3[G.length]? = some (.cells true 0 [v]) := by rw [e2]; exact at_new
  have k1 := x3.cell g1
  have k2 := x3.cell g2
  have k3 := x3.cell g3
  have l3 : G3.length = G.length + 1 := by rw [e2]; simp
  clear e2
  (repeat (first | refine ya (by (with_reducible constructor) <;> first | rfl | decide) ?_ | apply yb | refine yc rfl ?_))
  refine awp_rangeA mo rfl (fun l h => by cases h) (pieces1_c (idt := G.length) (l := l) (v := v) h2 hb)
    (fun rest H' => ∃ i, rest = piecesI l i (n - i) ∧ i ≤ n ∧ findP p l 0 n = findP p l i (n - i) ∧ Ext G3 H')
    (fun x H' => x = .ret ∧ ∃ i, findP p l 0 n = some i ∧ H'[H.length + 2]? = some (.cells true 0 (pieceC (pieceOf l i))) ∧ H'[H.length + 3]? = some (.cells true 0 [.bool true]) ∧ Ext H H') ?_ ?_ ?_ ?_ ?_ ?_ ?_
  · rintro rest H' c' ⟨i, h1, h2, h3, h4⟩
    exact ⟨i, h1, h2, h3, h4.set (Nat.le_refl _) _⟩
  · rintro x H' c' ⟨h1, i, h2, h3, h4, h5⟩
    refine ⟨h1, i, h2, ?_, ?_, h5.set (by omega) _⟩
    · rw [List.getElem?_set_ne (by omega)]; exact h3
    · rw [List.getElem?_set_ne (by omega)]; exact h4
  · rintro rest H' ⟨i, h1, h2, h3, h4⟩
    exact ⟨h4.cell k4, hl.ext (xH3.trans h4)⟩
  · intro N
    exact ⟨0, by rw [hn]; rfl, Nat.zero_le _, rfl, (Ext.refl _).app N⟩
  · rintro a rest H1 ⟨i, h1, hin, h3, h4⟩ hlt
    obtain ⟨k, hk⟩ : ∃ k, n - i = k := ⟨_, rfl⟩
    rw [hk] at h1 h3
    match k, h1 with
    | k + 1, h1 =>
    obtain ⟨rfl, rfl⟩ := List.cons.inj h1
    have hi : i < n := by omega
    have hki : k = n - (i + 1) := by omega
    refine ⟨rfl, fun R Rb _ hR => ?_⟩
    simp only [assignParams, List.zip_cons_cons, List.zip_nil_left, List.foldl_cons, List.foldl_nil]
    have hst : storeR 4 (.pointer (some ⟨H1.length, 0, none⟩)) (pieceV (pieceOf l i)) (H1 ++ [.cells true 0 [.int .i64 0, .int .i64 0, .int .i64 0, .int .i64 0]]) = some (undef, H1 ++ [.cells true 0 (pieceC (pieceOf l i))]) := store_new4 rfl
    ((repeat (first | refine ya (by (with_reducible constructor) <;> first | rfl | decide) ?_ | apply yb | refine yc rfl ?_ | ((first | apply yd | apply ye); simp (disch := first | exact List.all_nil | omega | (simp only [go_sem]; done) | (simp only [ln, List.length_map]; omega) | (repeat' first | assumption | exact Ext.refl _ | refine Ext.app ?_ _)) only [go_sem, hst]; with_reducible rfl))))
    refine ⟨rfl, at_app hR, ?_⟩
    have hlR := (List.getElem?_eq_some_iff.1 hR).1
    have hx5 : Ext G3 ((H1 ++ [AObj.cells true 0 (pieceC (pieceOf l i))]).set G3.length Rb) := (h4.app _).set (Nat.le_refl _) _
    have hRb : ((H1 ++ [AObj.cells true 0 (pieceC (pieceOf l i))]).set G3.length Rb)[G3.length]? = some Rb := get_set_self (at_app hR)
    have b7 : ((H1 ++ [AObj.cells true 0 (pieceC (pieceOf l i))]).set G3.length Rb)[H1.length]? = some (.cells true 0 (pieceC (pieceOf l i))) := by
      rw [List.getElem?_set_ne (by omega)]; exact at_new
    generalize ((H1 ++ [AObj.cells true 0 (pieceC (pieceOf l i))]).set G3.length Rb : AHeap) = Hb at hx5 hRb b7
    have b2 := hx5.cell k2
    have b3 := hx5.cell k3
    have b3' : (Hb.set (H.length + 2) (.cells true 0 (pieceC (pieceOf l i))))[H.length + 3]? = some (.cells true 0 [.bool false]) := by rw [List.getElem?_set_ne (by omega)]; exact b3
    ((repeat (first | refine ya (by (with_reducible constructor) <;> first | rfl | decide) ?_ | apply yb | refine yc rfl ?_ | ((first | apply yd | apply ye); simp (disch := first | exact List.all_nil | omega | (simp only [go_sem]; done) | (simp only [ln, List.length_map]; omega) | (repeat' first | assumption | exact Ext.refl _ | refine Ext.app ?_ _)) only [go_sem, load_at (hx5.cell k1), load_piece b7]; with_reducible rfl))))
    refine aops_call_to (hq Hb (xH3.trans hx5) i hi) ?_
    by_cases hp : p (pieceOf l i) = true
    · rw [hp]
      ((repeat (first | refine ya (by (with_reducible constructor) <;> first | rfl | decide) ?_ | apply yb | refine yc rfl ?_ | ((first | apply yd | apply ye); simp (disch := first | exact List.all_nil | omega | (simp only [go_sem]; done) | (simp only [ln, List.length_map]; omega) | (repeat' first | assumption | exact Ext.refl _ | refine Ext.app ?_ _)) only [go_sem]; with_reducible rfl))))
      refine cond_t rfl ?_
      ((repeat (first | refine ya (by (with_reducible constructor) <;> first | rfl | decide) ?_ | apply yb | refine yc rfl ?_ | ((first | apply yd | apply ye); simp (disch := first | exact List.all_nil | omega | (simp only [go_sem]; done) | (simp only [ln, List.length_map]; omega) | (repeat' first | assumption | exact Ext.refl _ | refine Ext.app ?_ _)) only [go_sem, load_piece b7, store_at4 b2, store_b1 b3' (y := .bool true) rfl rfl]; with_reducible rfl))))
      refine rounded_r ?_ ⟨rfl, i, ?_, ?_, get_set_self b3', ((xH3.trans hx5).set (by omega) _).set (by omega) _⟩
      · rw [List.getElem?_set_ne (by omega), List.getElem?_set_ne (by omega)]; exact hRb
      · rw [h3, findP_succ, if_pos hp]
      · rw [List.getElem?_set_ne (by omega)]; exact get_set_self b2
    · have hpf : p (pieceOf l i) = false := by simpa using hp
      rw [hpf]
      ((repeat (first | refine ya (by (with_reducible constructor) <;> first | rfl | decide) ?_ | apply yb | refine yc rfl ?_ | ((first | apply yd | apply ye); simp (disch := first | exact List.all_nil | omega | (simp only [go_sem]; done) | (simp only [ln, List.length_map]; omega) | (repeat' first | assumption | exact Ext.refl _ | refine Ext.app ?_ _)) only [go_sem]; with_reducible rfl))))
      refine cond_f rfl ?_
      ((repeat (first | refine ya (by (with_reducible constructor) <;> first | rfl | decide) ?_ | apply yb | refine yc rfl ?_ | ((first | apply yd | apply ye); simp (disch := first | exact List.all_nil | omega | (simp only [go_sem]; done) | (simp only [ln, List.length_map]; omega) | (repeat' first | assumption | exact Ext.refl _ | refine Ext.app ?_ _)) only [go_sem]; with_reducible rfl))))
      refine rounded_n hRb ⟨i + 1, by rw [← hki], by omega, ?_, hx5⟩
      rw [h3, ← hki, findP_succ, if_neg hp]
  · rintro H' ⟨i, h1, hin, h3, h4⟩
    obtain ⟨k, hk⟩ : ∃ k, n - i = k := ⟨_, rfl⟩
    rw [hk] at h1 h3
    match k, h1 with
    | 0, _ =>
    have b2 := h4.cell k2
    have b3 := h4.cell k3
    have b3' : (H'.set (H.length + 2) (.cells true 0 (pieceC zeroP)))[H.length + 3]? = some (.cells true 0 [.bool false]) := by rw [List.getElem?_set_ne (by omega)]; exact b3
    have hs4 : storeR 4 (.pointer (some ⟨H.length + 2, 0, none⟩)) (.agg ⟨[.int .i64 0, .int .i64 0, .int .i64 0, .int .i64 0]⟩) H' = some (undef, H'.set (H.length + 2) (.cells true 0 (pieceC zeroP))) := store_at4 (p := zeroP) b2
    ((repeat (first | refine ya (by (with_reducible constructor) <;> first | rfl | decide) ?_ | apply yb | refine yc rfl ?_ | ((first | apply yd | apply ye); simp (disch := first | exact List.all_nil | omega | (simp only [go_sem]; done) | (simp only [ln, List.length_map]; omega) | (repeat' first | assumption | exact Ext.refl _ | refine Ext.app ?_ _)) only [go_sem, fill_none, hs4, store_b1 b3' (y := .bool false) rfl rfl]; with_reducible rfl))))
    have e0 : findR (findP p l 0 n) l = (zeroP, false) := by rw [h3]; rfl
    refine fin_ll (u := pieceV zeroP) (w := .bool false) (load_piece (by rw [List.getElem?_set_ne (by omega)]; exact get_set_self b2)) (load1 (get_set_self b3')) ⟨by rw [e0], ((xH3.trans h4).set (by omega) _).set (by omega) _⟩
  · rintro x H' hx ⟨rfl, i, h1, h2, h3, h4⟩
    have e0 : findR (findP p l 0 n) l = (pieceOf l i, true) := by rw [h1]; rfl
    ((repeat (first | refine ya (by (with_reducible constructor) <;> first | rfl | decide) ?_ | apply yb | refine yc rfl ?_ | ((first | apply yd | apply ye); simp (disch := first | exact List.all_nil | omega | (simp only [go_sem]; done) | (simp only [ln, List.length_map]; omega) | (repeat' first | assumption | exact Ext.refl _ | refine Ext.app ?_ _)) only [go_sem]; with_reducible rfl))))
    refine fin_ll (u := pieceV (pieceOf l i)) (w := .bool true) (load_piece h2) (load1 h3) ⟨by rw [e0], h4⟩
end
end Go.Lq

namespace Go.Lq

structure Digit (y1 y0 u u1 : Int) : Prop where
  b0 : 0 ≤ y0 ∧ y0 < 4294967296
  b1 : 2147483648 ≤ y1 ∧ y1 < 4294967296
  bu : 0 ≤ u ∧ u < y1 * 4294967296 + y0
  bu1 : 0 ≤ u1 ∧ u1 < 4294967296
def quoD (y1 y0 u u1 : Int) : Int := (u * 4294967296 + u1) / (y1 * 4294967296 + y0)
section
variable {y1 y0 u u1 q r : Int}
theorem Digit.vpos (h : Digit y1 y0 u u1) : 0 < y1 * 4294967296 + y0 := by have := h.b0; have := h.b1; omega
theorem Digit.quo_nn (h : Digit y1 y0 u u1) : 0 ≤ quoD y1 y0 u u1 := Int.ediv_nonneg (by have := h.bu; have := h.bu1; omega) (by have := h.vpos; omega)
theorem Digit.quo_lt (h : Digit y1 y0 u u1) : quoD y1 y0 u u1 < 4294967296 := by
  refine Int.ediv_lt_of_lt_mul h.vpos ?_
  have h1 := h.bu
  have h2 := h.bu1
  generalize y1 * 4294967296 + y0 = v at *
  omega
theorem Digit.le_of (h : Digit y1 y0 u u1) (hm : q * (y1 * 4294967296 + y0) ≤ u * 4294967296 + u1) : q ≤ quoD y1 y0 u u1 := Int.le_ediv_of_mul_le h.vpos hm
theorem Digit.lt_of (h : Digit y1 y0 u u1) (hm : u * 4294967296 + u1 < q * (y1 * 4294967296 + y0)) : quoD y1 y0 u u1 < q := Int.ediv_lt_of_lt_mul h.vpos hm
theorem Digit.quo_mul (h : Digit y1 y0 u u1) : quoD y1 y0 u u1 * (y1 * 4294967296 + y0) ≤ u * 4294967296 + u1 := Int.ediv_mul_le _ (by have := h.vpos; omega)
theorem dist_qv (q y1 y0 : Int) : q * (y1 * 4294967296 + y0) = q * y1 * 4294967296 + q * y0 := by rw [Int.mul_add, Int.mul_assoc]
theorem Digit.first (h : Digit y1 y0 u u1) : quoD y1 y0 u u1 ≤ u / y1 := by
  have h1 := h.quo_mul
  have h2 := h.quo_nn
  have hy := h.b0
  have hy1 := h.b1
  have hu1 := h.bu1
  rw [dist_qv] at h1
  refine Int.le_ediv_of_mul_le (by omega) ?_
  have h3 := Int.mul_nonneg h2 hy.1
  generalize quoD y1 y0 u u1 * y1 = a at *
  generalize quoD y1 y0 u u1 * y0 = b at *
  omega
theorem Digit.step (h : Digit y1 y0 u u1) (hu : u = q * y1 + r) (hc : 4294967296 ≤ q ∨ 4294967296 * r + u1 < q * y0) : quoD y1 y0 u u1 ≤ q - 1 := by
  rcases hc with hc | hc
  · have := h.quo_lt; omega
  · have : quoD y1 y0 u u1 < q := h.lt_of (by rw [dist_qv]; omega)
    omega
theorem Digit.done (h : Digit y1 y0 u u1) (hu : u = q * y1 + r) (hq : quoD y1 y0 u u1 ≤ q) (hc : q * y0 ≤ 4294967296 * r + u1) : q = quoD y1 y0 u u1 := by
  have := h.le_of (q := q) (by rw [dist_qv]; omega)
  omega
theorem Digit.done2 (h : Digit y1 y0 u u1) (hu : u = q * y1 + r) (hq : quoD y1 y0 u u1 ≤ q) (hr : 4294967296 ≤ r) : q = quoD y1 y0 u u1 := by
  have hy := h.b0
  have hy1 := h.b1
  have huu := h.bu
  have hu1 := h.bu1
  have h0 := h.quo_nn
  have hlt : q < 4294967296 := by
    rcases Int.lt_or_le q 4294967296 with h | h
    · exact h
    · have := Int.mul_le_mul_of_nonneg_right h (show 0 ≤ y1 by omega)
      omega
  refine h.done hu hq ?_
  have h1 := Int.mul_le_mul (show q ≤ 4294967295 by omega) (show y0 ≤ 4294967295 by omega) hy.1 (by omega)
  omega
theorem Digit.bound (h : Digit y1 y0 u u1) (hu : u = q * y1 + r) (hq : quoD y1 y0 u u1 ≤ q) (hr : 0 ≤ r) : 0 ≤ q ∧ q ≤ 8589934592 ∧ 0 ≤ q * y1 ∧ q * y1 ≤ u := by
  have hy := h.b0
  have hy1 := h.b1
  have huu := h.bu
  have h0 := h.quo_nn
  have h1 := Int.mul_nonneg (show 0 ≤ q by omega) (show 0 ≤ y1 by omega)
  refine ⟨by omega, ?_, h1, by omega⟩
  rcases Int.lt_or_le 8589934592 q with h | h
  · have := Int.mul_le_mul (show 8589934593 ≤ q by omega) hy1.1 (by omega) (by omega)
    omega
  · exact h
theorem Digit.left (h : Digit y1 y0 u u1) (hq : q = quoD y1 y0 u u1) : u * 4294967296 + u1 - q * (y1 * 4294967296 + y0) = (u * 4294967296 + u1) % (y1 * 4294967296 + y0) := by
  subst hq
  have := Int.mul_ediv_add_emod (u * 4294967296 + u1) (y1 * 4294967296 + y0)
  rw [Int.mul_comm] at this
  unfold quoD
  omega
end
theorem div_two {U y s v hi lo un un1 un0 q1 q0 r1 r0 : Int} (hs : 0 < s) (hy : 0 < y) (hv : v = y * s) (hU : U = hi * 18446744073709551616 + lo) (hUs : U * s = un * 18446744073709551616 + un1 * 4294967296 + un0)
    (h1 : un * 4294967296 + un1 = q1 * v + r1) (h2 : r1 * 4294967296 + un0 = q0 * v + r0) (hr : 0 ≤ r0 ∧ r0 < v) : q1 * 4294967296 + q0 = U / y ∧ r0 / s = U % y := by
  have e : U * s = (q1 * 4294967296 + q0) * v + r0 := by
    rw [hUs, Int.add_mul]
    have : q1 * 4294967296 * v = q1 * v * 4294967296 := by ac_rfl
    omega
  have hvp : 0 < v := by rw [hv]; exact Int.mul_pos hy hs
  have k1 : U * s / v = q1 * 4294967296 + q0 := by
    rw [e, Int.add_comm, Int.add_mul_ediv_right _ _ (by omega), Int.ediv_eq_zero_of_lt hr.1 hr.2, Int.zero_add]
  have k2 : U * s / v = U / y := by rw [hv]; exact Int.mul_ediv_mul_of_pos_left U y hs
  have k3 : q1 * 4294967296 + q0 = U / y := by rw [← k1, k2]
  refine ⟨k3, ?_⟩
  have k4 := Int.mul_ediv_add_emod U y
  have k5 : r0 = U % y * s := by
    have : U * s = (U / y) * v + U % y * s := by
      rw [hv]
      have a1 : U / y * (y * s) = y * (U / y) * s := by ac_rfl
      rw [a1, ← Int.add_mul, k4]
    rw [e, k3] at this
    omega
  rw [k5]
  exact Int.mul_ediv_cancel _ (by omega)
end Go.Lq

namespace Go.Lq
open Go
open Go.Proofs

def len8 (n : Nat) : Nat := if n = 0 then 0 else if n < 2 then 1 else if n < 4 then 2 else if n < 8 then 3 else if n < 16 then 4 else if n < 32 then 5 else if n < 64 then 6 else if n < 128 then 7 else 8
def len8tab : ByteArray := ⟨#[0, 1, 2, 2, 3, 3, 3, 3, 4, 4, 4, 4, 4, 4, 4, 4, 5, 5, 5, 5, 5, 5, 5, 5, 5, 5, 5, 5, 5, 5, 5, 5, 6, 6, 6, 6, 6, 6, 6, 6, 6, 6, 6, 6, 6, 6, 6, 6, 6, 6, 6, 6, 6, 6, 6, 6, 6, 6, 6, 6, 6, 6, 6, 6, 7, 7, 7, 7, 7, 7, 7, 7, 7, 7, 7, 7, 7, 7, 7, 7, 7, 7, 7, 7, 7, 7, 7, 7, 7, 7, 7, 7, 7, 7, 7, 7, 7, 7, 7, 7, 7, 7, 7, 7, 7, 7, 7, 7, 7, 7, 7, 7, 7, 7, 7, 7, 7, 7, 7, 7, 7, 7, 7, 7, 7, 7, 7, 7, 8, 8, 8, 8, 8, 8, 8, 8, 8, 8, 8, 8, 8, 8, 8, 8, 8, 8, 8, 8, 8, 8, 8, 8, 8, 8, 8, 8, 8, 8, 8, 8, 8, 8, 8, 8, 8, 8, 8, 8, 8, 8, 8, 8, 8, 8, 8, 8, 8, 8, 8, 8, 8, 8, 8, 8, 8, 8, 8, 8, 8, 8, 8, 8, 8, 8, 8, 8, 8, 8, 8, 8, 8, 8, 8, 8, 8, 8, 8, 8, 8, 8, 8, 8, 8, 8, 8, 8, 8, 8, 8, 8, 8, 8, 8, 8, 8, 8, 8, 8, 8, 8, 8, 8, 8, 8, 8, 8, 8, 8, 8, 8, 8, 8, 8, 8, 8, 8, 8, 8, 8, 8, 8, 8, 8, 8, 8, 8]⟩
theorem tab8_at : ∀ k : _root_.Fin 256, (len8tab[k.val]?).map UInt8.toNat = some (len8 k.val) := by decide +kernel
set_option maxRecDepth 10000 in
theorem tab8 {H : AHeap} {n : Nat} (h : n < 256) : idxSR (.string ⟨#[0, 1, 2, 2, 3, 3, 3, 3, 4, 4, 4, 4, 4, 4, 4, 4, 5, 5, 5, 5, 5, 5, 5, 5, 5, 5, 5, 5, 5, 5, 5, 5, 6, 6, 6, 6, 6, 6, 6, 6, 6, 6, 6, 6, 6, 6, 6, 6, 6, 6, 6, 6, 6, 6, 6, 6, 6, 6, 6, 6, 6, 6, 6, 6, 7, 7, 7, 7, 7, 7, 7, 7, 7, 7, 7, 7, 7, 7, 7, 7, 7, 7, 7, 7, 7, 7, 7, 7, 7, 7, 7, 7, 7, 7, 7, 7, 7, 7, 7, 7, 7, 7, 7, 7, 7, 7, 7, 7, 7, 7, 7, 7, 7, 7, 7, 7, 7, 7, 7, 7, 7, 7, 7, 7, 7, 7, 7, 7, 8, 8, 8, 8, 8, 8, 8, 8, 8, 8, 8, 8, 8, 8, 8, 8, 8, 8, 8, 8, 8, 8, 8, 8, 8, 8, 8, 8, 8, 8, 8, 8, 8, 8, 8, 8, 8, 8, 8, 8, 8, 8, 8, 8, 8, 8, 8, 8, 8, 8, 8, 8, 8, 8, 8, 8, 8, 8, 8, 8, 8, 8, 8, 8, 8, 8, 8, 8, 8, 8, 8, 8, 8, 8, 8, 8, 8, 8, 8, 8, 8, 8, 8, 8, 8, 8, 8, 8, 8, 8, 8, 8, 8, 8, 8, 8, 8, 8, 8, 8, 8, 8, 8, 8, 8, 8, 8, 8, 8, 8, 8, 8, 8, 8, 8, 8, 8, 8, 8, 8, 8, 8, 8, 8, 8, 8, 8, 8]⟩) (.int .u8 (n : Int)) H = some (.int .u8 (len8 n : Nat), H) := by
  show idxSR (.string len8tab) _ _ = _
  obtain ⟨b, hb, he⟩ := Option.map_eq_some_iff.1 (tab8_at ⟨n, h⟩)
  dsimp only at hb he
  simp only [idxSR, idxStr, Int.toNat_natCast, hb, Option.map_some, he]
  rw [if_pos (by omega)]
  rfl
theorem len8_spec {n : Nat} (h0 : 0 < n) (h : n < 256) : 1 ≤ len8 n ∧ len8 n ≤ 8 ∧ 2 ^ (len8 n - 1) ≤ n ∧ n < 2 ^ len8 n := by
  unfold len8
  repeat' split
  all_goals first | (exfalso; omega) | (refine ⟨by omega, by omega, ?_, ?_⟩ <;> (simp; try omega))
theorem pow_split {x n k : Nat} (h1 : 1 ≤ k) (hl : 2 ^ (k - 1) ≤ x / 2 ^ n) (hu : x / 2 ^ n < 2 ^ k) : 2 ^ (n + k - 1) ≤ x ∧ x < 2 ^ (n + k) := by
  constructor
  · have := (Nat.le_div_iff_mul_le (Nat.pow_pos (by omega))).1 hl
    rwa [← Nat.pow_add, show k - 1 + n = n + k - 1 by omega] at this
  · have := (Nat.div_lt_iff_lt_mul (Nat.pow_pos (by omega))).1 hu
    rwa [← Nat.pow_add, show k + n = n + k by omega] at this

section
variable {H : AHeap}
theorem mul64_c {x y : Int} (hx : 0 ≤ x ∧ x < 18446744073709551616) (hy : 0 ≤ y ∧ y < 18446744073709551616) : ACall Go.Proofs.Tryd.prog 151 [.int .u64 x, .int .u64 y] H fun v H' =>
    v = .tuple #[.int .u64 (x * y / 18446744073709551616), .int .u64 (x * y % 18446744073709551616)] ∧ H' = H := by
  obtain ⟨x1, x0, ex1, ex0⟩ : ∃ x1 x0, x1 = x / 4294967296 ∧ x0 = x % 4294967296 := ⟨_, _, rfl, rfl⟩
  obtain ⟨y1, y0, ey1, ey0⟩ : ∃ y1 y0, y1 = y / 4294967296 ∧ y0 = y % 4294967296 := ⟨_, _, rfl, rfl⟩
  have hxx : x = x1 * 4294967296 + x0 := by omega
  have hyy : y = y1 * 4294967296 + y0 := by omega
  have m1 := mul_abs (x := x1) (y := y1) (a := 4294967295) (b := 4294967295) ⟨by omega, by omega⟩ ⟨by omega, by omega⟩
  have m2 := mul_abs (x := x1) (y := y0) (a := 4294967295) (b := 4294967295) ⟨by omega, by omega⟩ ⟨by omega, by omega⟩
  have m3 := mul_abs (x := x0) (y := y1) (a := 4294967295) (b := 4294967295) ⟨by omega, by omega⟩ ⟨by omega, by omega⟩
  have m4 := mul_abs (x := x0) (y := y0) (a := 4294967295) (b := 4294967295) ⟨by omega, by omega⟩ ⟨by omega, by omega⟩
  have n1 := Int.mul_nonneg (show 0 ≤ x1 by omega) (show 0 ≤ y1 by omega)
  have n2 := Int.mul_nonneg (show 0 ≤ x1 by omega) (show 0 ≤ y0 by omega)
  have n3 := Int.mul_nonneg (show 0 ≤ x0 by omega) (show 0 ≤ y1 by omega)
  have n4 := Int.mul_nonneg (show 0 ≤ x0 by omega) (show 0 ≤ y0 by omega)
  have hprod : x * y = x1 * y1 * 18446744073709551616 + x1 * y0 * 4294967296 + x0 * y1 * 4294967296 + x0 * y0 := by
    rw [hxx, hyy]
    simp only [Int.add_mul, Int.mul_add]
    have e1 : x1 * 4294967296 * (y1 * 4294967296) = x1 * y1 * 18446744073709551616 := by
      rw [show (18446744073709551616 : Int) = 4294967296 * 4294967296 by decide]; ac_rfl
    have e2 : x1 * 4294967296 * y0 = x1 * y0 * 4294967296 := by ac_rfl
    have e3 : x0 * (y1 * 4294967296) = x0 * y1 * 4294967296 := by ac_rfl
    omega
  (refine a151 ?_; simp only [n151, List.replicate, List.length_cons, List.length_nil, List.cons_append, List.nil_append]; first | refine q1 ?_ | refine q2 ?_ | refine q6 ?_ | refine q7 ?_ | refine qh rfl ?_ | skip)
  ((repeat (first | refine ya (by (with_reducible constructor) <;> first | rfl | decide) ?_ | apply yb | refine yc rfl ?_ | ((first | apply yd | apply ye); simp (disch := first | exact List.all_nil | omega | (simp only [go_sem]; done) | (simp only [ln, List.length_map]; omega) | (repeat' first | assumption | exact Ext.refl _ | refine Ext.app ?_ _)) only [go_sem, ← ex1, ← ex0, ← ey1, ← ey0, wu_eq (x * y)]; with_reducible rfl))))
  refine fin_2 ⟨?_, rfl⟩
  show Value.tuple #[.int .u64 _, .int .u64 _] = _
  congr 3
  rw [hprod]
  congr 1
  omega
set_option maxRecDepth 10000 in
theorem len64_c {x : Int} (hx : 0 < x ∧ x < 18446744073709551616) : ACall Go.Proofs.Tryd.prog 155 [.int .u64 x] H fun v H' => H' = H ∧ ∃ n : Nat, v = .int .i64 n ∧ 1 ≤ n ∧ n ≤ 64 ∧ ((2 ^ (n - 1) : Nat) : Int) ≤ x ∧ x < ((2 ^ n : Nat) : Int) := by
  obtain ⟨xn, rfl⟩ : ∃ n : Nat, x = n := ⟨x.toNat, by omega⟩
  (refine a155 ?_; simp only [n155, List.replicate, List.length_cons, List.length_nil, List.cons_append, List.nil_append]; first | refine q1 ?_ | refine q2 ?_ | refine q6 ?_ | refine q7 ?_ | refine qh rfl ?_ | skip)
  ((repeat (first | refine ya (by (with_reducible constructor) <;> first | rfl | decide) ?_ | apply yb | refine yc rfl ?_ | ((first | apply yd | apply ye); simp (disch := first | exact List.all_nil | omega | (simp only [go_sem]; done) | (simp only [ln, List.length_map]; omega) | (repeat' first | assumption | exact Ext.refl _ | refine Ext.app ?_ _)) only [go_sem]; with_reducible rfl))))
  refine awp_mid [true, false, true, false, false, false, false, false, false, false, false, false, false, false, false, false, false, false, false, false, false, false, false, false, false] (fun e H' => H' = H ∧ ∃ n : Nat, n ≤ 32 ∧ 0 < xn / 2 ^ n ∧ xn / 2 ^ n < 4294967296 ∧ e = [.int .u64 ((xn / 2 ^ n : Nat) : Int), junk, .int .i64 n, junk, junk, junk, junk, junk, junk, junk, junk, junk, junk, junk, junk, junk, junk, junk, junk, junk, junk, junk, junk, junk, junk]) ?_ ?_
  · refine cond_p rfl (fun h => ?_) (fun h => ?_)
    · ((repeat (first | refine ya (by (with_reducible constructor) <;> first | rfl | decide) ?_ | apply yb | refine yc rfl ?_ | ((first | apply yd | apply ye); simp (disch := first | exact List.all_nil | omega | (simp only [go_sem]; done) | (simp only [ln, List.length_map]; omega) | (repeat' first | assumption | exact Ext.refl _ | refine Ext.app ?_ _)) only [go_sem]; with_reducible rfl))))
      exact ⟨rfl, rfl, 32, by omega, by simp; omega, by simp; omega, by simp [forget]⟩
    · ((repeat (first | refine ya (by (with_reducible constructor) <;> first | rfl | decide) ?_ | apply yb | refine yc rfl ?_ | ((first | apply yd | apply ye); simp (disch := first | exact List.all_nil | omega | (simp only [go_sem]; done) | (simp only [ln, List.length_map]; omega) | (repeat' first | assumption | exact Ext.refl _ | refine Ext.app ?_ _)) only [go_sem]; with_reducible rfl))))
      exact ⟨rfl, rfl, 0, by omega, by simp; omega, by simp; omega, by simp [forget]⟩
  rintro e H' ⟨rfl, n, hn, h1, h2, rfl⟩
  ((repeat (first | refine ya (by (with_reducible constructor) <;> first | rfl | decide) ?_ | apply yb | refine yc rfl ?_ | ((first | apply yd | apply ye); simp (disch := first | exact List.all_nil | omega | (simp only [go_sem]; done) | (simp only [ln, List.length_map]; omega) | (repeat' first | assumption | exact Ext.refl _ | refine Ext.app ?_ _)) only [go_sem]; with_reducible rfl))))
  refine awp_mid [true, false, true, false, false, false, false, false, false, false, false, false, false, false, false, false, false, false, false, false, false, false, false, false, false] (fun e H'' => H'' = H' ∧ ∃ n : Nat, n ≤ 48 ∧ 0 < xn / 2 ^ n ∧ xn / 2 ^ n < 65536 ∧ e = [.int .u64 ((xn / 2 ^ n : Nat) : Int), junk, .int .i64 n, junk, junk, junk, junk, junk, junk, junk, junk, junk, junk, junk, junk, junk, junk, junk, junk, junk, junk, junk, junk, junk, junk]) ?_ ?_
  · refine cond_p rfl (fun h => ?_) (fun h => ?_)
    · have e1 : xn / 2 ^ (n + 16) = xn / 2 ^ n / 65536 := by rw [Nat.pow_add, Nat.div_div_eq_div_mul]
      ((repeat (first | refine ya (by (with_reducible constructor) <;> first | rfl | decide) ?_ | apply yb | refine yc rfl ?_ | ((first | apply yd | apply ye); simp (disch := first | exact List.all_nil | omega | (simp only [go_sem]; done) | (simp only [ln, List.length_map]; omega) | (repeat' first | assumption | exact Ext.refl _ | refine Ext.app ?_ _)) only [go_sem]; with_reducible rfl))))
      exact ⟨rfl, rfl, n + 16, by omega, by rw [e1]; omega, by rw [e1]; omega, by rw [e1]; simp [forget]⟩
    · ((repeat (first | refine ya (by (with_reducible constructor) <;> first | rfl | decide) ?_ | apply yb | refine yc rfl ?_ | ((first | apply yd | apply ye); simp (disch := first | exact List.all_nil | omega | (simp only [go_sem]; done) | (simp only [ln, List.length_map]; omega) | (repeat' first | assumption | exact Ext.refl _ | refine Ext.app ?_ _)) only [go_sem]; with_reducible rfl))))
      exact ⟨rfl, rfl, n, by omega, h1, by omega, by simp [forget]⟩
  rintro e H'' ⟨rfl, n, hn, h1, h2, rfl⟩
  ((repeat (first | refine ya (by (with_reducible constructor) <;> first | rfl | decide) ?_ | apply yb | refine yc rfl ?_ | ((first | apply yd | apply ye); simp (disch := first | exact List.all_nil | omega | (simp only [go_sem]; done) | (simp only [ln, List.length_map]; omega) | (repeat' first | assumption | exact Ext.refl _ | refine Ext.app ?_ _)) only [go_sem]; with_reducible rfl))))
  refine awp_mid [true, false, true, false, false, false, false, false, false, false, false, false, false, false, false, false, false, false, false, false, false, false, false, false, false] (fun e H' => H' = H'' ∧ ∃ n : Nat, n ≤ 56 ∧ 0 < xn / 2 ^ n ∧ xn / 2 ^ n < 256 ∧ e = [.int .u64 ((xn / 2 ^ n : Nat) : Int), junk, .int .i64 n, junk, junk, junk, junk, junk, junk, junk, junk, junk, junk, junk, junk, junk, junk, junk, junk, junk, junk, junk, junk, junk, junk]) ?_ ?_
  · refine cond_p rfl (fun h => ?_) (fun h => ?_)
    · have e1 : xn / 2 ^ (n + 8) = xn / 2 ^ n / 256 := by rw [Nat.pow_add, Nat.div_div_eq_div_mul]
      ((repeat (first | refine ya (by (with_reducible constructor) <;> first | rfl | decide) ?_ | apply yb | refine yc rfl ?_ | ((first | apply yd | apply ye); simp (disch := first | exact List.all_nil | omega | (simp only [go_sem]; done) | (simp only [ln, List.length_map]; omega) | (repeat' first | assumption | exact Ext.refl _ | refine Ext.app ?_ _)) only [go_sem]; with_reducible rfl))))
      exact ⟨rfl, rfl, n + 8, by omega, by rw [e1]; omega, by rw [e1]; omega, by rw [e1]; simp [forget]⟩
    · ((repeat (first | refine ya (by (with_reducible constructor) <;> first | rfl | decide) ?_ | apply yb | refine yc rfl ?_ | ((first | apply yd | apply ye); simp (disch := first | exact List.all_nil | omega | (simp only [go_sem]; done) | (simp only [ln, List.length_map]; omega) | (repeat' first | assumption | exact Ext.refl _ | refine Ext.app ?_ _)) only [go_sem]; with_reducible rfl))))
      exact ⟨rfl, rfl, n, by omega, h1, by omega, by simp [forget]⟩
  rintro e H' ⟨rfl, n, hn, h1, h2, rfl⟩
  obtain ⟨l1, l2, l3, l4⟩ := len8_spec h1 h2
  ((repeat (first | refine ya (by (with_reducible constructor) <;> first | rfl | decide) ?_ | apply yb | refine yc rfl ?_ | ((first | apply yd | apply ye); simp (disch := first | exact List.all_nil | omega | (simp only [go_sem]; done) | (simp only [ln, List.length_map]; omega) | (repeat' first | assumption | exact Ext.refl _ | refine Ext.app ?_ _)) only [go_sem, conv_u8, tab8 h2]; with_reducible rfl))))
  refine fin_1 ⟨rfl, n + len8 (xn / 2 ^ n), by simp, by omega, by omega, ?_⟩
  obtain ⟨k1, k2⟩ := pow_split l1 l3 l4
  exact ⟨by exact_mod_cast k1, by exact_mod_cast k2⟩
theorem lz64_c {x : Int} (hx : 0 < x ∧ x < 18446744073709551616) : ACall Go.Proofs.Tryd.prog 154 [.int .u64 x] H fun v H' => H' = H ∧ ∃ s : Nat, v = .int .i64 s ∧ s < 64 ∧ 9223372036854775808 ≤ x * ((2 ^ s : Nat) : Int) ∧ x * ((2 ^ s : Nat) : Int) < 18446744073709551616 := by
  (refine a154 ?_; simp only [n154, List.replicate, List.length_cons, List.length_nil, List.cons_append, List.nil_append]; first | refine q1 ?_ | refine q2 ?_ | refine q6 ?_ | refine q7 ?_ | refine qh rfl ?_ | skip)
  ((repeat (first | refine ya (by (with_reducible constructor) <;> first | rfl | decide) ?_ | apply yb | refine yc rfl ?_ | ((first | apply yd | apply ye); simp (disch := first | exact List.all_nil | omega | (simp only [go_sem]; done) | (simp only [ln, List.length_map]; omega) | (repeat' first | assumption | exact Ext.refl _ | refine Ext.app ?_ _)) only [go_sem]; with_reducible rfl))))
  refine aops_call ((len64_c hx).mono fun u H' ⟨h1, n, h2, n1, n2, n3, n4⟩ => ?_)
  subst h1; subst h2
  obtain ⟨xn, rfl⟩ : ∃ n : Nat, x = n := ⟨x.toNat, by omega⟩
  ((repeat (first | refine ya (by (with_reducible constructor) <;> first | rfl | decide) ?_ | apply yb | refine yc rfl ?_ | ((first | apply yd | apply ye); simp (disch := first | exact List.all_nil | omega | (simp only [go_sem]; done) | (simp only [ln, List.length_map]; omega) | (repeat' first | assumption | exact Ext.refl _ | refine Ext.app ?_ _)) only [go_sem]; with_reducible rfl))))
  refine fin_1 ⟨rfl, 64 - n, by simp; omega, by omega, ?_⟩
  have k1 : 2 ^ (n - 1) ≤ xn := by exact_mod_cast n3
  have k2 : xn < 2 ^ n := by exact_mod_cast n4
  have p0 : 0 < 2 ^ (64 - n) := Nat.pow_pos (by omega)
  have k3 := Nat.mul_le_mul_right (2 ^ (64 - n)) k1
  have k4 := Nat.mul_lt_mul_of_pos_right k2 p0
  rw [← Nat.pow_add, show n - 1 + (64 - n) = 63 by omega] at k3
  rw [← Nat.pow_add, show n + (64 - n) = 64 by omega] at k4
  rw [← Int.natCast_mul]
  generalize xn * 2 ^ (64 - n) = z at *
  have : (2 : Nat) ^ 63 = 9223372036854775808 := by decide
  have : (2 : Nat) ^ 64 = 18446744073709551616 := by decide
  omega
end
end Go.Lq

namespace Go.Lq
open Go
open Go.Proofs

theorem left_flow {u u1 Q y1 y0 V : Int} (h : Digit y1 y0 u u1) (hV : V = y1 * 4294967296 + y0) (hq : Q = quoD y1 y0 u u1) : wu (wu (wu (u * 4294967296) + u1) - wu (Q * V)) = (u * 4294967296 + u1) % V := by
  have h1 := h.left hq
  have h2 := h.vpos
  have h3 := h.b1
  have h4 := h.b0
  rw [← hV] at h1 h2
  have h5 := Int.emod_nonneg (u * 4294967296 + u1) (show V ≠ 0 by omega)
  have h6 := Int.emod_lt_of_pos (u * 4294967296 + u1) h2
  simp only [wu_eq]
  have h7 : V < 18446744073709551616 := by omega
  generalize (u * 4294967296 + u1) % V = R at *
  generalize Q * V = z at *
  generalize u * 4294967296 = x at *
  omega

section
variable {H : AHeap}
set_option maxHeartbeats 4000000 in
theorem div64_c {hi lo y : Int} (hh : 0 ≤ hi ∧ hi < y) (hl : 0 ≤ lo ∧ lo < 18446744073709551616) (hy : y < 18446744073709551616) : ACall Go.Proofs.Tryd.prog 152 [.int .u64 hi, .int .u64 lo, .int .u64 y] H fun v H' =>
    v = .tuple #[.int .u64 ((hi * 18446744073709551616 + lo) / y), .int .u64 ((hi * 18446744073709551616 + lo) % y)] ∧ H' = H := by
  (refine a152 ?_; simp only [n152, List.replicate, List.length_cons, List.length_nil, List.cons_append, List.nil_append]; first | refine Go.Lq.q1 ?_ | refine Go.Lq.q2 ?_ | refine Go.Lq.q6 ?_ | refine Go.Lq.q7 ?_ | refine Go.Lq.qh rfl ?_ | skip)
  ((repeat (first | refine ya (by (with_reducible constructor) <;> first | rfl | decide) ?_ | apply yb | refine yc rfl ?_ | ((first | apply yd | apply ye); simp (disch := first | exact List.all_nil | omega | (simp only [go_sem]; done) | (simp only [ln, List.length_map]; omega) | (repeat' first | assumption | exact Ext.refl _ | refine Ext.app ?_ _)) only [go_sem, dec_f (show ¬ y = 0 by omega)]; with_reducible rfl))))
  refine cond_f rfl ?_
  ((repeat (first | refine ya (by (with_reducible constructor) <;> first | rfl | decide) ?_ | apply yb | refine yc rfl ?_ | ((first | apply yd | apply ye); simp (disch := first | exact List.all_nil | omega | (simp only [go_sem]; done) | (simp only [ln, List.length_map]; omega) | (repeat' first | assumption | exact Ext.refl _ | refine Ext.app ?_ _)) only [go_sem, dec_f (show ¬ y ≤ hi by omega)]; with_reducible rfl))))
  refine cond_f rfl ?_
  have hy0 : 0 < y := by omega
  by_cases h0 : hi = 0
  · subst h0
    have e1 : lo.tdiv y = lo / y := Int.tdiv_eq_ediv_of_nonneg hl.1
    have e2 : lo.tmod y = lo % y := Int.tmod_eq_emod_of_nonneg hl.1
    have q1 := Int.ediv_nonneg hl.1 (Int.le_of_lt hy0)
    have q2 := Int.ediv_le_self y hl.1
    ((repeat (first | refine ya (by (with_reducible constructor) <;> first | rfl | decide) ?_ | apply yb | refine yc rfl ?_ | ((first | apply yd | apply ye); simp (disch := first | exact List.all_nil | omega | (simp only [go_sem]; done) | (simp only [ln, List.length_map]; omega) | (repeat' first | assumption | exact Ext.refl _ | refine Ext.app ?_ _)) only [go_sem]; with_reducible rfl))))
    refine cond_t rfl ?_
    ((repeat (first | refine ya (by (with_reducible constructor) <;> first | rfl | decide) ?_ | apply yb | refine yc rfl ?_ | ((first | apply yd | apply ye); simp (disch := first | exact List.all_nil | omega | (simp only [go_sem]; done) | (simp only [ln, List.length_map]; omega) | (repeat' first | assumption | exact Ext.refl _ | refine Ext.app ?_ _)) only [go_sem, a_quoU (show y ≠ 0 by omega), a_remU (show y ≠ 0 by omega), e1, e2]; with_reducible rfl))))
    exact fin_2 ⟨by simp, rfl⟩
  ((repeat (first | refine ya (by (with_reducible constructor) <;> first | rfl | decide) ?_ | apply yb | refine yc rfl ?_ | ((first | apply yd | apply ye); simp (disch := first | exact List.all_nil | omega | (simp only [go_sem]; done) | (simp only [ln, List.length_map]; omega) | (repeat' first | assumption | exact Ext.refl _ | refine Ext.app ?_ _)) only [go_sem, dec_f h0]; with_reducible rfl))))
  refine cond_f rfl ?_
  ((repeat (first | refine ya (by (with_reducible constructor) <;> first | rfl | decide) ?_ | apply yb | refine yc rfl ?_ | ((first | apply yd | apply ye); simp (disch := first | exact List.all_nil | omega | (simp only [go_sem]; done) | (simp only [ln, List.length_map]; omega) | (repeat' first | assumption | exact Ext.refl _ | refine Ext.app ?_ _)) only [go_sem]; with_reducible rfl))))
  refine aops_call ((lz64_c ⟨hy0, hy⟩).mono fun u H' ⟨h1, s, h2, s64, n1, n2⟩ => ?_)
  subst h1; subst h2
  have t1 : ((64 : Int) - (s : Int)).toNat = 64 - s := by omega
  have hS : ((2 ^ s : Nat) : Int) * ((2 ^ (64 - s) : Nat) : Int) = 18446744073709551616 := by
    rw [← Int.natCast_mul, ← Nat.pow_add, show s + (64 - s) = 64 by omega]; decide
  have hSp : (0 : Int) < ((2 ^ s : Nat) : Int) := by have := Nat.pow_pos (n := s) (show 0 < 2 by omega); omega
  have hTp : (0 : Int) < ((2 ^ (64 - s) : Nat) : Int) := by have := Nat.pow_pos (n := 64 - s) (show 0 < 2 by omega); omega
  have hTl : lo / ((2 ^ (64 - s) : Nat) : Int) < ((2 ^ s : Nat) : Int) := Int.ediv_lt_of_lt_mul hTp (by rw [hS]; exact hl.2)
  have hTn : 0 ≤ lo / ((2 ^ (64 - s) : Nat) : Int) := Int.ediv_nonneg hl.1 (Int.le_of_lt hTp)
  have hls : lo * ((2 ^ s : Nat) : Int) = lo / ((2 ^ (64 - s) : Nat) : Int) * 18446744073709551616 + lo * ((2 ^ s : Nat) : Int) % 18446744073709551616 := by
    have a1 := Int.mul_ediv_add_emod (lo * ((2 ^ s : Nat) : Int)) 18446744073709551616
    have a2 : lo * ((2 ^ s : Nat) : Int) / 18446744073709551616 = lo / ((2 ^ (64 - s) : Nat) : Int) := by
      rw [← hS, Int.mul_comm lo]
      exact Int.mul_ediv_mul_of_pos _ _ hSp
    rw [a2] at a1
    omega
  have hcS : (hi + 1) * ((2 ^ s : Nat) : Int) ≤ y * ((2 ^ s : Nat) : Int) := Int.mul_le_mul_of_nonneg_right (by omega) (Int.le_of_lt hSp)
  rw [Int.add_mul, Int.one_mul] at hcS
  have hhS : 0 ≤ hi * ((2 ^ s : Nat) : Int) := Int.mul_nonneg hh.1 (Int.le_of_lt hSp)
  have hbor := fun H' => bor_add (H := H') (s := s) (c := hi) (b := lo / ((2 ^ (64 - s) : Nat) : Int)) hh.1 (by omega) hTn hTl (by omega)
  have hdiv := fun U32 U1 U0 Q1 Q0 R1 R0 => @div_two (hi * 18446744073709551616 + lo) y ((2 ^ s : Nat) : Int) (y * ((2 ^ s : Nat) : Int)) hi lo U32 U1 U0 Q1 Q0 R1 R0 hSp hy0 rfl rfl
  have hUs : (hi * 18446744073709551616 + lo) * ((2 ^ s : Nat) : Int) = (hi * ((2 ^ s : Nat) : Int) + lo / ((2 ^ (64 - s) : Nat) : Int)) * 18446744073709551616 + lo * ((2 ^ s : Nat) : Int) % 18446744073709551616 := by
    rw [Int.add_mul, Int.add_mul, Int.add_assoc, ← hls]
    congr 1
    ac_rfl
  have hu32 : 0 ≤ hi * ((2 ^ s : Nat) : Int) + lo / ((2 ^ (64 - s) : Nat) : Int) ∧ hi * ((2 ^ s : Nat) : Int) + lo / ((2 ^ (64 - s) : Nat) : Int) < y * ((2 ^ s : Nat) : Int) := by omega
  have hV1 : 9223372036854775808 ≤ y * ((2 ^ s : Nat) : Int) := n1
  obtain ⟨V, hVd⟩ : ∃ V, y * ((2 ^ s : Nat) : Int) = V := ⟨_, rfl⟩
  obtain ⟨U32, hUd⟩ : ∃ U, hi * ((2 ^ s : Nat) : Int) + lo / ((2 ^ (64 - s) : Nat) : Int) = U := ⟨_, rfl⟩
  obtain ⟨U10, hLd⟩ : ∃ U, lo * ((2 ^ s : Nat) : Int) % 18446744073709551616 = U := ⟨_, rfl⟩
  obtain ⟨y1, hy1⟩ : ∃ z, V / 4294967296 = z := ⟨_, rfl⟩
  obtain ⟨y0, hy0'⟩ : ∃ z, V % 4294967296 = z := ⟨_, rfl⟩
  obtain ⟨U1, hU1⟩ : ∃ z, U10 / 4294967296 = z := ⟨_, rfl⟩
  obtain ⟨U0, hU0⟩ : ∃ z, U10 % 4294967296 = z := ⟨_, rfl⟩
  have hV2 : V = y1 * 4294967296 + y0 := by omega
  rw [hVd] at hu32 hV1 n2
  rw [hUd] at hu32
  have hLb : 0 ≤ U10 ∧ U10 < 18446744073709551616 := by omega
  have D : Digit y1 y0 U32 U1 := ⟨by omega, by omega, by omega, by omega⟩
  have e1 : U32.tdiv y1 = U32 / y1 := Int.tdiv_eq_ediv_of_nonneg D.bu.1
  have q1b := Int.ediv_le_self y1 D.bu.1
  have q1n := Int.ediv_nonneg D.bu.1 (show 0 ≤ y1 by have := D.b1; omega)
  have q1m : 0 ≤ U32 / y1 * y1 ∧ U32 / y1 * y1 ≤ U32 := ⟨Int.mul_nonneg q1n (by have := D.b1; omega), Int.ediv_mul_le _ (by have := D.b1; omega)⟩
  have q1r : U32 - U32 / y1 * y1 = U32 % y1 := by have := Int.mul_ediv_add_emod U32 y1; rw [Int.mul_comm] at this; omega
  have q1e := Int.emod_nonneg U32 (show y1 ≠ 0 by have := D.b1; omega)
  have q1l := Int.emod_lt_of_pos U32 (show 0 < y1 by have := D.b1; omega)
  have hb1 := D.b1
  have hb0 := D.b0
  have hbu := D.bu
  have hbu1 := D.bu1
  have hshr : ∀ J : AHeap, shrR (.int .u64 lo) (.int .u64 ((64 : Int) - (s : Int))) J = some (.int .u64 (lo / ((2 ^ (64 - s) : Nat) : Int)), J) := fun J => by rw [shr_u hl.1 (by omega) (by omega), t1]
  ((repeat (first | refine ya (by (with_reducible constructor) <;> first | rfl | decide) ?_ | apply yb | refine yc rfl ?_ | ((first | apply yd | apply ye); simp (disch := first | exact List.all_nil | omega | (simp only [go_sem]; done) | (simp only [ln, List.length_map]; omega) | (repeat' first | assumption | exact Ext.refl _ | refine Ext.app ?_ _)) only [go_sem, shl_u, hshr, hbor, wu_eq (lo * ((2 ^ s : Nat) : Int)), hVd, hUd, hLd, hy1, hy0', hU1, hU0, a_quoU (show y1 ≠ 0 by omega), e1, q1r]; with_reducible rfl))))
  refine awp_midB [false, false, true, false, false, false, false, false, true, true, true, true, false, true, true, true, false, false, false, false, false, false, false, false, false, false, false, false, false, false, false, false, false, false, false, false, false, false, false, false, false, false, false, false, false, false, false, false, false, false, false, false, false, false, false, false, false, false, false, false, false, false, false, false, false, false, false, false, false, false, false, false, false, false, false, false, false, false, false, false, false, false, false, false, false, false, false, false, false, false, false, false, false, false, false, false, false, false, false, false, false, false, false, false, false, false, false, false, false, false, false, false, false, false, false, false, false, false, false, false, false, false, false, false, false, false, false, false, false, false, false, false, false, false, false] (fun e J => J = H' ∧ e = [junk, junk, .int .u64 V, junk, junk, junk, junk, junk, .int .u64 s, .int .u64 y1, .int .u64 y0, .int .u64 U32, junk, .int .u64 U1, .int .u64 U0, .int .u64 (quoD y1 y0 U32 U1), junk, junk, junk, junk, junk, junk, junk, junk, junk, junk, junk, junk, junk, junk, junk, junk, junk, junk, junk, junk, junk, junk, junk, junk, junk, junk, junk, junk, junk, junk, junk, junk, junk, junk, junk, junk, junk, junk, junk, junk, junk, junk, junk, junk, junk, junk, junk, junk, junk, junk, junk, junk, junk, junk, junk, junk, junk, junk, junk, junk, junk, junk, junk, junk, junk, junk, junk, junk, junk, junk, junk, junk, junk, junk, junk, junk, junk, junk, junk, junk, junk, junk, junk, junk, junk, junk, junk, junk, junk, junk, junk, junk, junk, junk, junk, junk, junk, junk, junk, junk, junk, junk, junk, junk, junk, junk, junk, junk, junk, junk, junk, junk, junk, junk, junk, junk, junk, junk, junk]) ?_ ?_
  · have hfst := D.first
    have q2 := Int.ediv_nonneg D.bu.1 (show 0 ≤ y1 by omega)
    refine awp_loop [false, false, true, false, false, false, false, false, true, true, true, true, false, true, true, true, true, false, false, false, false, false, false, false, false, false, false, false, false, false, false, false, false, false, false, false, false, false, false, false, false, false, false, false, false, false, false, false, false, false, false, false, false, false, false, false, false, false, false, false, false, false, false, false, false, false, false, false, false, false, false, false, false, false, false, false, false, false, false, false, false, false, false, false, false, false, false, false, false, false, false, false, false, false, false, false, false, false, false, false, false, false, false, false, false, false, false, false, false, false, false, false, false, false, false, false, false, false, false, false, false, false, false, false, false, false, false, false, false, false, false, false, false, false, false] (fun k e J => J = H' ∧ ∃ q r : Int, k = q.toNat ∧ U32 = q * y1 + r ∧ quoD y1 y0 U32 U1 ≤ q ∧ (0 ≤ r ∧ r < 4294967296) ∧ e = [junk, junk, .int .u64 V, junk, junk, junk, junk, junk, .int .u64 s, .int .u64 y1, .int .u64 y0, .int .u64 U32, junk, .int .u64 U1, .int .u64 U0, .int .u64 q, .int .u64 r, junk, junk, junk, junk, junk, junk, junk, junk, junk, junk, junk, junk, junk, junk, junk, junk, junk, junk, junk, junk, junk, junk, junk, junk, junk, junk, junk, junk, junk, junk, junk, junk, junk, junk, junk, junk, junk, junk, junk, junk, junk, junk, junk, junk, junk, junk, junk, junk, junk, junk, junk, junk, junk, junk, junk, junk, junk, junk, junk, junk, junk, junk, junk, junk, junk, junk, junk, junk, junk, junk, junk, junk, junk, junk, junk, junk, junk, junk, junk, junk, junk, junk, junk, junk, junk, junk, junk, junk, junk, junk, junk, junk, junk, junk, junk, junk, junk, junk, junk, junk, junk, junk, junk, junk, junk, junk, junk, junk, junk, junk, junk, junk, junk, junk, junk, junk, junk, junk]) (U32 / y1).toNat ?_ ?_
    · refine ⟨rfl, U32 / y1, U32 % y1, rfl, ?_, hfst, ⟨Int.emod_nonneg _ (by omega), by have := Int.emod_lt_of_pos U32 (show 0 < y1 by omega); omega⟩, by simp [forget]⟩
      have := Int.mul_ediv_add_emod U32 y1
      rw [Int.mul_comm] at this
      omega
    rintro k e J ⟨rfl, q, r, rfl, hu, hq, hr, rfl⟩
    obtain ⟨w1, w2, w3, w4⟩ := D.bound hu hq hr.1
    have hu' : U32 = (q - 1) * y1 + (r + y1) := by rw [Int.sub_mul, Int.one_mul]; omega
    have D0 := D.quo_nn
    by_cases hA : 4294967296 ≤ q
    · have hst := D.step hu (.inl hA)
      ((repeat (first | refine ya (by (with_reducible constructor) <;> first | rfl | decide) ?_ | apply yb | refine yc rfl ?_ | ((first | apply yd | apply ye); simp (disch := first | exact List.all_nil | omega | (simp only [go_sem]; done) | (simp only [ln, List.length_map]; omega) | (repeat' first | assumption | exact Ext.refl _ | refine Ext.app ?_ _)) only [go_sem, dec_t hA]; with_reducible rfl))))
      refine cond_t rfl ?_
      ((repeat (first | refine ya (by (with_reducible constructor) <;> first | rfl | decide) ?_ | apply yb | refine yc rfl ?_ | ((first | apply yd | apply ye); simp (disch := first | exact List.all_nil | omega | (simp only [go_sem]; done) | (simp only [ln, List.length_map]; omega) | (repeat' first | assumption | exact Ext.refl _ | refine Ext.app ?_ _)) only [go_sem]; with_reducible rfl))))
      refine cond_p rfl (fun hx => ?_) (fun hx => ?_)
      · have hd := D.done2 hu' hst hx
        ((repeat (first | refine ya (by (with_reducible constructor) <;> first | rfl | decide) ?_ | apply yb | refine yc rfl ?_ | ((first | apply yd | apply ye); simp (disch := first | exact List.all_nil | omega | (simp only [go_sem]; done) | (simp only [ln, List.length_map]; omega) | (repeat' first | assumption | exact Ext.refl _ | refine Ext.app ?_ _)) only [go_sem]; with_reducible rfl))))
        exact ⟨rfl, rfl, by rw [← hd]; simp [forget]⟩
      · ((repeat (first | refine ya (by (with_reducible constructor) <;> first | rfl | decide) ?_ | apply yb | refine yc rfl ?_ | ((first | apply yd | apply ye); simp (disch := first | exact List.all_nil | omega | (simp only [go_sem]; done) | (simp only [ln, List.length_map]; omega) | (repeat' first | assumption | exact Ext.refl _ | refine Ext.app ?_ _)) only [go_sem]; with_reducible rfl))))
        exact ⟨(q - 1).toNat, by omega, rfl, q - 1, r + y1, rfl, hu', hst, by omega, by simp [forget]⟩
    · have m1 := mul_abs (x := q) (y := y0) (a := 4294967295) (b := 4294967295) ⟨by omega, by omega⟩ ⟨by omega, by omega⟩
      have m2 := Int.mul_nonneg w1 D.b0.1
      ((repeat (first | refine ya (by (with_reducible constructor) <;> first | rfl | decide) ?_ | apply yb | refine yc rfl ?_ | ((first | apply yd | apply ye); simp (disch := first | exact List.all_nil | omega | (simp only [go_sem]; done) | (simp only [ln, List.length_map]; omega) | (repeat' first | assumption | exact Ext.refl _ | refine Ext.app ?_ _)) only [go_sem, dec_f hA]; with_reducible rfl))))
      refine cond_p rfl (fun hc => ?_) (fun hc => ?_)
      · have hst := D.step hu (.inr hc)
        ((repeat (first | refine ya (by (with_reducible constructor) <;> first | rfl | decide) ?_ | apply yb | refine yc rfl ?_ | ((first | apply yd | apply ye); simp (disch := first | exact List.all_nil | omega | (simp only [go_sem]; done) | (simp only [ln, List.length_map]; omega) | (repeat' first | assumption | exact Ext.refl _ | refine Ext.app ?_ _)) only [go_sem]; with_reducible rfl))))
        refine cond_p rfl (fun hx => ?_) (fun hx => ?_)
        · have hd := D.done2 hu' hst hx
          ((repeat (first | refine ya (by (with_reducible constructor) <;> first | rfl | decide) ?_ | apply yb | refine yc rfl ?_ | ((first | apply yd | apply ye); simp (disch := first | exact List.all_nil | omega | (simp only [go_sem]; done) | (simp only [ln, List.length_map]; omega) | (repeat' first | assumption | exact Ext.refl _ | refine Ext.app ?_ _)) only [go_sem]; with_reducible rfl))))
          exact ⟨rfl, rfl, by rw [← hd]; simp [forget]⟩
        · ((repeat (first | refine ya (by (with_reducible constructor) <;> first | rfl | decide) ?_ | apply yb | refine yc rfl ?_ | ((first | apply yd | apply ye); simp (disch := first | exact List.all_nil | omega | (simp only [go_sem]; done) | (simp only [ln, List.length_map]; omega) | (repeat' first | assumption | exact Ext.refl _ | refine Ext.app ?_ _)) only [go_sem]; with_reducible rfl))))
          exact ⟨(q - 1).toNat, by omega, rfl, q - 1, r + y1, rfl, hu', hst, by omega, by simp [forget]⟩
      · have hd := D.done hu hq (by omega)
        ((repeat (first | refine ya (by (with_reducible constructor) <;> first | rfl | decide) ?_ | apply yb | refine yc rfl ?_ | ((first | apply yd | apply ye); simp (disch := first | exact List.all_nil | omega | (simp only [go_sem]; done) | (simp only [ln, List.length_map]; omega) | (repeat' first | assumption | exact Ext.refl _ | refine Ext.app ?_ _)) only [go_sem]; with_reducible rfl))))
        exact ⟨rfl, rfl, by rw [← hd]; simp [forget]⟩
  rintro e J ⟨rfl, rfl⟩
  have hfl := left_flow D hV2 rfl
  obtain ⟨Q1, hQ1⟩ : ∃ z, quoD y1 y0 U32 U1 = z := ⟨_, rfl⟩
  obtain ⟨R1, hR1⟩ : ∃ z, (U32 * 4294967296 + U1) % V = z := ⟨_, rfl⟩
  have hQb : 0 ≤ Q1 ∧ Q1 < 4294967296 := by rw [← hQ1]; exact ⟨D.quo_nn, D.quo_lt⟩
  rw [hR1, hQ1] at hfl
  rw [hQ1]
  have hR1b : 0 ≤ R1 ∧ R1 < V := by rw [← hR1]; exact ⟨Int.emod_nonneg _ (by omega), Int.emod_lt_of_pos _ (by omega)⟩
  have D2 : Digit y1 y0 R1 U0 := ⟨by omega, by omega, by omega, by omega⟩
  have e2 : R1.tdiv y1 = R1 / y1 := Int.tdiv_eq_ediv_of_nonneg hR1b.1
  have p1b := Int.ediv_le_self y1 hR1b.1
  have p1n := Int.ediv_nonneg hR1b.1 (show 0 ≤ y1 by omega)
  have p1m : 0 ≤ R1 / y1 * y1 ∧ R1 / y1 * y1 ≤ R1 := ⟨Int.mul_nonneg p1n (by omega), Int.ediv_mul_le _ (by omega)⟩
  have p1r : R1 - R1 / y1 * y1 = R1 % y1 := by have := Int.mul_ediv_add_emod R1 y1; rw [Int.mul_comm] at this; omega
  have p1e := Int.emod_nonneg R1 (show y1 ≠ 0 by omega)
  have p1l := Int.emod_lt_of_pos R1 (show 0 < y1 by omega)
  ((repeat (first | refine ya (by (with_reducible constructor) <;> first | rfl | decide) ?_ | apply yb | refine yc rfl ?_ | ((first | apply yd | apply ye); simp (disch := first | exact List.all_nil | omega | (simp only [go_sem]; done) | (simp only [ln, List.length_map]; omega) | (repeat' first | assumption | exact Ext.refl _ | refine Ext.app ?_ _)) only [go_sem, hfl, a_quoU (show y1 ≠ 0 by omega), e2, p1r]; with_reducible rfl))))
  refine awp_midB [false, false, true, false, false, false, false, false, true, true, true, false, false, false, true, true, false, true, true, false, false, false, false, false, false, false, false, false, false, false, false, false, false, false, false, false, false, false, false, false, false, false, false, false, false, false, false, false, false, false, false, false, false, false, false, false, false, false, false, false, false, false, false, false, false, false, false, false, false, false, false, false, false, false, false, false, false, false, false, false, false, false, false, false, false, false, false, false, false, false, false, false, false, false, false, false, false, false, false, false, false, false, false, false, false, false, false, false, false, false, false, false, false, false, false, false, false, false, false, false, false, false, false, false, false, false, false, false, false, false, false, false, false, false, false] (fun e K => K = J ∧ e = [junk, junk, .int .u64 V, junk, junk, junk, junk, junk, .int .u64 s, .int .u64 y1, .int .u64 y0, junk, junk, junk, .int .u64 U0, .int .u64 Q1, junk, .int .u64 R1, .int .u64 (quoD y1 y0 R1 U0), junk, junk, junk, junk, junk, junk, junk, junk, junk, junk, junk, junk, junk, junk, junk, junk, junk, junk, junk, junk, junk, junk, junk, junk, junk, junk, junk, junk, junk, junk, junk, junk, junk, junk, junk, junk, junk, junk, junk, junk, junk, junk, junk, junk, junk, junk, junk, junk, junk, junk, junk, junk, junk, junk, junk, junk, junk, junk, junk, junk, junk, junk, junk, junk, junk, junk, junk, junk, junk, junk, junk, junk, junk, junk, junk, junk, junk, junk, junk, junk, junk, junk, junk, junk, junk, junk, junk, junk, junk, junk, junk, junk, junk, junk, junk, junk, junk, junk, junk, junk, junk, junk, junk, junk, junk, junk, junk, junk, junk, junk, junk, junk, junk, junk, junk, junk]) ?_ ?_
  · have hfst := D2.first
    have q2 := Int.ediv_nonneg D2.bu.1 (show 0 ≤ y1 by omega)
    refine awp_loop [false, false, true, false, false, false, false, false, true, true, true, false, false, false, true, true, true, true, true, false, false, false, false, false, false, false, false, false, false, false, false, false, false, false, false, false, false, false, false, false, false, false, false, false, false, false, false, false, false, false, false, false, false, false, false, false, false, false, false, false, false, false, false, false, false, false, false, false, false, false, false, false, false, false, false, false, false, false, false, false, false, false, false, false, false, false, false, false, false, false, false, false, false, false, false, false, false, false, false, false, false, false, false, false, false, false, false, false, false, false, false, false, false, false, false, false, false, false, false, false, false, false, false, false, false, false, false, false, false, false, false, false, false, false, false] (fun k e K => K = J ∧ ∃ q r : Int, k = q.toNat ∧ R1 = q * y1 + r ∧ quoD y1 y0 R1 U0 ≤ q ∧ (0 ≤ r ∧ r < 4294967296) ∧ e = [junk, junk, .int .u64 V, junk, junk, junk, junk, junk, .int .u64 s, .int .u64 y1, .int .u64 y0, junk, junk, junk, .int .u64 U0, .int .u64 Q1, .int .u64 r, .int .u64 R1, .int .u64 q, junk, junk, junk, junk, junk, junk, junk, junk, junk, junk, junk, junk, junk, junk, junk, junk, junk, junk, junk, junk, junk, junk, junk, junk, junk, junk, junk, junk, junk, junk, junk, junk, junk, junk, junk, junk, junk, junk, junk, junk, junk, junk, junk, junk, junk, junk, junk, junk, junk, junk, junk, junk, junk, junk, junk, junk, junk, junk, junk, junk, junk, junk, junk, junk, junk, junk, junk, junk, junk, junk, junk, junk, junk, junk, junk, junk, junk, junk, junk, junk, junk, junk, junk, junk, junk, junk, junk, junk, junk, junk, junk, junk, junk, junk, junk, junk, junk, junk, junk, junk, junk, junk, junk, junk, junk, junk, junk, junk, junk, junk, junk, junk, junk, junk, junk, junk]) (R1 / y1).toNat ?_ ?_
    · refine ⟨rfl, R1 / y1, R1 % y1, rfl, ?_, hfst, ⟨Int.emod_nonneg _ (by omega), by have := Int.emod_lt_of_pos R1 (show 0 < y1 by omega); omega⟩, by simp [forget]⟩
      have := Int.mul_ediv_add_emod R1 y1
      rw [Int.mul_comm] at this
      omega
    rintro k e K ⟨rfl, q, r, rfl, hu, hq, hr, rfl⟩
    obtain ⟨w1, w2, w3, w4⟩ := D2.bound hu hq hr.1
    have hu' : R1 = (q - 1) * y1 + (r + y1) := by rw [Int.sub_mul, Int.one_mul]; omega
    have D0 := D2.quo_nn
    by_cases hA : 4294967296 ≤ q
    · have hst := D2.step hu (.inl hA)
      ((repeat (first | refine ya (by (with_reducible constructor) <;> first | rfl | decide) ?_ | apply yb | refine yc rfl ?_ | ((first | apply yd | apply ye); simp (disch := first | exact List.all_nil | omega | (simp only [go_sem]; done) | (simp only [ln, List.length_map]; omega) | (repeat' first | assumption | exact Ext.refl _ | refine Ext.app ?_ _)) only [go_sem, dec_t hA]; with_reducible rfl))))
      refine cond_t rfl ?_
      ((repeat (first | refine ya (by (with_reducible constructor) <;> first | rfl | decide) ?_ | apply yb | refine yc rfl ?_ | ((first | apply yd | apply ye); simp (disch := first | exact List.all_nil | omega | (simp only [go_sem]; done) | (simp only [ln, List.length_map]; omega) | (repeat' first | assumption | exact Ext.refl _ | refine Ext.app ?_ _)) only [go_sem]; with_reducible rfl))))
      refine cond_p rfl (fun hx => ?_) (fun hx => ?_)
      · have hd := D2.done2 hu' hst hx
        ((repeat (first | refine ya (by (with_reducible constructor) <;> first | rfl | decide) ?_ | apply yb | refine yc rfl ?_ | ((first | apply yd | apply ye); simp (disch := first | exact List.all_nil | omega | (simp only [go_sem]; done) | (simp only [ln, List.length_map]; omega) | (repeat' first | assumption | exact Ext.refl _ | refine Ext.app ?_ _)) only [go_sem]; with_reducible rfl))))
        exact ⟨rfl, rfl, by rw [← hd]; simp [forget]⟩
      · ((repeat (first | refine ya (by (with_reducible constructor) <;> first | rfl | decide) ?_ | apply yb | refine yc rfl ?_ | ((first | apply yd | apply ye); simp (disch := first | exact List.all_nil | omega | (simp only [go_sem]; done) | (simp only [ln, List.length_map]; omega) | (repeat' first | assumption | exact Ext.refl _ | refine Ext.app ?_ _)) only [go_sem]; with_reducible rfl))))
        exact ⟨(q - 1).toNat, by omega, rfl, q - 1, r + y1, rfl, hu', hst, by omega, by simp [forget]⟩
    · have m1 := mul_abs (x := q) (y := y0) (a := 4294967295) (b := 4294967295) ⟨by omega, by omega⟩ ⟨by omega, by omega⟩
      have m2 := Int.mul_nonneg w1 D2.b0.1
      ((repeat (first | refine ya (by (with_reducible constructor) <;> first | rfl | decide) ?_ | apply yb | refine yc rfl ?_ | ((first | apply yd | apply ye); simp (disch := first | exact List.all_nil | omega | (simp only [go_sem]; done) | (simp only [ln, List.length_map]; omega) | (repeat' first | assumption | exact Ext.refl _ | refine Ext.app ?_ _)) only [go_sem, dec_f hA]; with_reducible rfl))))
      refine cond_p rfl (fun hc => ?_) (fun hc => ?_)
      · have hst := D2.step hu (.inr hc)
        ((repeat (first | refine ya (by (with_reducible constructor) <;> first | rfl | decide) ?_ | apply yb | refine yc rfl ?_ | ((first | apply yd | apply ye); simp (disch := first | exact List.all_nil | omega | (simp only [go_sem]; done) | (simp only [ln, List.length_map]; omega) | (repeat' first | assumption | exact Ext.refl _ | refine Ext.app ?_ _)) only [go_sem]; with_reducible rfl))))
        refine cond_p rfl (fun hx => ?_) (fun hx => ?_)
        · have hd := D2.done2 hu' hst hx
          ((repeat (first | refine ya (by (with_reducible constructor) <;> first | rfl | decide) ?_ | apply yb | refine yc rfl ?_ | ((first | apply yd | apply ye); simp (disch := first | exact List.all_nil | omega | (simp only [go_sem]; done) | (simp only [ln, List.length_map]; omega) | (repeat' first | assumption | exact Ext.refl _ | refine Ext.app ?_ _)) only [go_sem]; with_reducible rfl))))
          exact ⟨rfl, rfl, by rw [← hd]; simp [forget]⟩
        · ((repeat (first | refine ya (by (with_reducible constructor) <;> first | rfl | decide) ?_ | apply yb | refine yc rfl ?_ | ((first | apply yd | apply ye); simp (disch := first | exact List.all_nil | omega | (simp only [go_sem]; done) | (simp only [ln, List.length_map]; omega) | (repeat' first | assumption | exact Ext.refl _ | refine Ext.app ?_ _)) only [go_sem]; with_reducible rfl))))
          exact ⟨(q - 1).toNat, by omega, rfl, q - 1, r + y1, rfl, hu', hst, by omega, by simp [forget]⟩
      · have hd := D2.done hu hq (by omega)
        ((repeat (first | refine ya (by (with_reducible constructor) <;> first | rfl | decide) ?_ | apply yb | refine yc rfl ?_ | ((first | apply yd | apply ye); simp (disch := first | exact List.all_nil | omega | (simp only [go_sem]; done) | (simp only [ln, List.length_map]; omega) | (repeat' first | assumption | exact Ext.refl _ | refine Ext.app ?_ _)) only [go_sem]; with_reducible rfl))))
        exact ⟨rfl, rfl, by rw [← hd]; simp [forget]⟩
  rintro e K ⟨rfl, rfl⟩
  have hfl2 := left_flow D2 hV2 rfl
  obtain ⟨Q0, hQ0⟩ : ∃ z, quoD y1 y0 R1 U0 = z := ⟨_, rfl⟩
  obtain ⟨R0, hR0⟩ : ∃ z, (R1 * 4294967296 + U0) % V = z := ⟨_, rfl⟩
  have hQ0b : 0 ≤ Q0 ∧ Q0 < 4294967296 := by rw [← hQ0]; exact ⟨D2.quo_nn, D2.quo_lt⟩
  rw [hR0, hQ0] at hfl2
  rw [hQ0]
  have hR0b : 0 ≤ R0 ∧ R0 < V := by rw [← hR0]; exact ⟨Int.emod_nonneg _ (by omega), Int.emod_lt_of_pos _ (by omega)⟩
  have hend := hdiv U32 U1 U0 Q1 Q0 R1 R0 (by rw [hUs, hUd, hLd]; omega) (by
    rw [hVd, ← hQ1, ← hR1, hV2]
    have := Int.mul_ediv_add_emod (U32 * 4294967296 + U1) (y1 * 4294967296 + y0)
    rw [Int.mul_comm] at this
    unfold quoD; omega) (by
    rw [hVd, ← hQ0, ← hR0, hV2]
    have := Int.mul_ediv_add_emod (R1 * 4294967296 + U0) (y1 * 4294967296 + y0)
    rw [Int.mul_comm] at this
    unfold quoD; omega) (by rw [hVd]; exact hR0b)
  have hshr2 : ∀ J : AHeap, shrR (.int .u64 R0) (.int .u64 (s : Int)) J = some (.int .u64 (R0 / ((2 ^ s : Nat) : Int)), J) := fun J => by rw [shr_u hR0b.1 (by omega) (by omega), Int.toNat_natCast]
  ((repeat (first | refine ya (by (with_reducible constructor) <;> first | rfl | decide) ?_ | apply yb | refine yc rfl ?_ | ((first | apply yd | apply ye); simp (disch := first | exact List.all_nil | omega | (simp only [go_sem]; done) | (simp only [ln, List.length_map]; omega) | (repeat' first | assumption | exact Ext.refl _ | refine Ext.app ?_ _)) only [go_sem, hfl2, hshr2]; with_reducible rfl))))
  refine fin_2 ⟨?_, rfl⟩
  show Value.tuple #[.int .u64 (Q1 * 4294967296 + Q0), .int .u64 (R0 / ((2 ^ s : Nat) : Int))] = _
  rw [hend.1, hend.2]
end
end Go.Lq
