/- Towards ResamplePolynomials of seat YtlcfgealkjomnaaDoor: it returns true for every input. Made out of the proof's own texts, merged. -/
import Derived.Test.YtlcfgealkjomnaaDoorV122
set_option linter.unusedSimpArgs false
set_option maxRecDepth 100000
namespace Go.Lq
open Go

section
variable {H : AHeap}

theorem copyInts_c {l : List Int} {v : Value} (hl : Ints H l v) (hb : l.length ≤ 1000000000) :
    ACall Go.Proofs.Tryd.prog 25 [v] H fun v H1 => v = .slice (some ⟨H.length, 0, none⟩) l.length l.length ∧ H1 = H ++ [.cells true 1 (l.map (.int .i64))] := by
  refine ACall.tidyE (f := id) (sz := 1) (n := l.length) (vs := l.map (.int .i64)) wraps_id (closed_ints l) ?_
  (refine a25 ?_; simp only [n25, List.replicate, List.length_cons, List.length_nil, List.cons_append, List.nil_append])
  rcases hl with ⟨h1, h2⟩
  rcases h2 with ⟨rfl, hn⟩ | ⟨id, off, c, rfl, hc⟩
  · have : l = [] := List.length_eq_zero_iff.1 hn
    subst this
    have ha : appendA 1 8 (H ++ [.cells true 1 []]) (.slice (some ⟨H.length, 0, none⟩) 0 0) (.slice none 0 0) = some (.slice (some ⟨H.length, 0, none⟩) 0 0, H ++ [.cells true 1 []]) := rfl
    ((repeat (first | refine q1 ?_ | refine q2 ?_ | refine q3 ?_ | refine q4 ?_ | refine q5 ?_ | refine q6 ?_ | refine q7 ?_ | refine q8 ?_ | refine q9 ?_ | refine qa ?_ | refine qb ?_ | refine qc ?_ | refine qd ?_ | refine qe (by decide) ?_ | refine qf ?_ | refine qg ?_ | ((first | apply aops_all | apply adraw_all); (simp (disch := first | exact List.all_nil | omega | (simp only [go_sem]; done) | (simp only [ln, List.length_map]; omega) | (repeat' first | assumption | exact Ext.refl _ | refine Ext.app ?_ _)) only [go_sem, ha]; rfl)))); (try ((first | apply aops_until | apply adraw_until); (simp (disch := first | exact List.all_nil | omega | (simp only [go_sem]; done) | (simp only [ln, List.length_map]; omega) | (repeat' first | assumption | exact Ext.refl _ | refine Ext.app ?_ _)) only [go_sem, ha]; rfl))))
    exact fin_1 ⟨_, H.length, rfl, ⟨_, rfl⟩, rfl, Nat.le_refl _, by simp⟩
  · by_cases hn : l.length = 0
    · have : l = [] := List.length_eq_zero_iff.1 hn
      subst this
      have ha : appendA 1 8 (H ++ [.cells true 1 []]) (.slice (some ⟨H.length, 0, none⟩) 0 0) (.slice (some ⟨id, off, none⟩) ([] : List Int).length c) = some (.slice (some ⟨H.length, 0, none⟩) 0 0, H ++ [.cells true 1 []]) := rfl
      ((repeat (first | refine q1 ?_ | refine q2 ?_ | refine q3 ?_ | refine q4 ?_ | refine q5 ?_ | refine q6 ?_ | refine q7 ?_ | refine q8 ?_ | refine q9 ?_ | refine qa ?_ | refine qb ?_ | refine qc ?_ | refine qd ?_ | refine qe (by decide) ?_ | refine qf ?_ | refine qg ?_ | ((first | apply aops_all | apply adraw_all); (simp (disch := first | exact List.all_nil | omega | (simp only [go_sem]; done) | (simp only [ln, List.length_map]; omega) | (repeat' first | assumption | exact Ext.refl _ | refine Ext.app ?_ _)) only [go_sem, ha]; rfl)))); (try ((first | apply aops_until | apply adraw_until); (simp (disch := first | exact List.all_nil | omega | (simp only [go_sem]; done) | (simp only [ln, List.length_map]; omega) | (repeat' first | assumption | exact Ext.refl _ | refine Ext.app ?_ _)) only [go_sem, ha]; rfl))))
      exact fin_1 ⟨_, H.length, rfl, ⟨_, rfl⟩, rfl, Nat.le_refl _, by simp⟩
    · have ha : appendA 1 8 (H ++ [.cells true 1 []]) (.slice (some ⟨H.length, 0, none⟩) 0 0) (.slice (some ⟨id, off, none⟩) l.length c) =
          some (.slice (some ⟨(H ++ [AObj.cells true 1 []]).length, 0, none⟩) l.length l.length, (H ++ [.cells true 1 []]) ++ [.cells true 1 (l.map (.int .i64))]) := by
        obtain ⟨k, hk⟩ : ∃ k, l.length = k + 1 := ⟨l.length - 1, by omega⟩
        have hc' := cellsAt_ext ⟨[AObj.cells true 1 []], rfl⟩ (hc (by omega))
        have hr : roomOk 8 (0 + l.length) = true := roomOk_of (by omega) (by omega)
        rw [hk] at hc' hr ⊢
        simp only [appendA, hc', isAtom_ints, hr, and_self, if_true]
      ((repeat (first | refine q1 ?_ | refine q2 ?_ | refine q3 ?_ | refine q4 ?_ | refine q5 ?_ | refine q6 ?_ | refine q7 ?_ | refine q8 ?_ | refine q9 ?_ | refine qa ?_ | refine qb ?_ | refine qc ?_ | refine qd ?_ | refine qe (by decide) ?_ | refine qf ?_ | refine qg ?_ | ((first | apply aops_all | apply adraw_all); (simp (disch := first | exact List.all_nil | omega | (simp only [go_sem]; done) | (simp only [ln, List.length_map]; omega) | (repeat' first | assumption | exact Ext.refl _ | refine Ext.app ?_ _)) only [go_sem, ha]; rfl)))); (try ((first | apply aops_until | apply adraw_until); (simp (disch := first | exact List.all_nil | omega | (simp only [go_sem]; done) | (simp only [ln, List.length_map]; omega) | (repeat' first | assumption | exact Ext.refl _ | refine Ext.app ?_ _)) only [go_sem, ha]; rfl))))
      refine fin_1 ?_
      exact ⟨_, (H ++ [AObj.cells true 1 []]).length, rfl, ⟨_, List.append_assoc _ _ _⟩, rfl, by simp, by simp⟩

theorem bsize_c (n : Int) (hn : -9223372036854775807 ≤ n ∧ n ≤ 9223372036854775807) : ACall Go.Proofs.Tryd.prog 35 [.int .i64 n] H fun v H' => v = .int .i64 (max n (-n)) ∧ H' = H := by
  (refine a35 ?_; simp only [n35, List.replicate, List.length_cons, List.length_nil, List.cons_append, List.nil_append])
  ((repeat (first | refine q1 ?_ | refine q2 ?_ | refine q3 ?_ | refine q4 ?_ | refine q5 ?_ | refine q6 ?_ | refine q7 ?_ | refine q8 ?_ | refine q9 ?_ | refine qa ?_ | refine qb ?_ | refine qc ?_ | refine qd ?_ | refine qe (by decide) ?_ | refine qf ?_ | refine qg ?_ | ((first | apply aops_all | apply adraw_all); (simp (disch := first | exact List.all_nil | omega | (simp only [go_sem]; done) | (simp only [ln, List.length_map]; omega) | (repeat' first | assumption | exact Ext.refl _ | refine Ext.app ?_ _)) only [go_sem]; rfl)))); (try ((first | apply aops_until | apply adraw_until); (simp (disch := first | exact List.all_nil | omega | (simp only [go_sem]; done) | (simp only [ln, List.length_map]; omega) | (repeat' first | assumption | exact Ext.refl _ | refine Ext.app ?_ _)) only [go_sem]; rfl))))
  refine fin_1 ⟨?_, rfl⟩
  simp

theorem bfloor_c (n b : Int) (hb : 0 < b ∧ b ≤ 1000000000) (hn : -4000000000000000000 ≤ n ∧ n ≤ 4000000000000000000) :
    ACall Go.Proofs.Tryd.prog 54 [.int .i64 n, .int .i64 b] H fun v H' => v = .int .i64 (n / b) ∧ H' = H := by
  have e1 : n.tdiv b = if 0 ≤ n ∨ b ∣ n then n / b else n / b + 1 := by
    rw [Int.tdiv_eq_ediv]
    have : b.sign = 1 := Int.sign_eq_one_of_pos hb.1
    rw [this]
    split <;> omega
  have e2 : n.tmod b = if 0 ≤ n ∨ b ∣ n then n % b else n % b - b := by
    rw [Int.tmod_eq_emod]
    split <;> omega
  have h1 := Int.emod_nonneg n (show b ≠ 0 by omega)
  have h2 := Int.emod_lt_of_pos n hb.1
  have hq : -4000000000000000000 ≤ n / b ∧ n / b ≤ 4000000000000000000 := by
    constructor
    · refine Int.le_ediv_of_mul_le hb.1 ?_
      have : (-4000000000000000000 : Int) * b ≤ -4000000000000000000 * 1 := Int.mul_le_mul_of_nonpos_left (by omega) (by omega)
      omega
    · by_cases h : 0 ≤ n
      · exact Int.le_trans (Int.ediv_le_self _ h) hn.2
      · have := Int.ediv_neg_of_neg_of_pos (by omega : n < 0) hb.1
        omega
  have hq2 : -4000000000000000001 ≤ n.tdiv b ∧ n.tdiv b ≤ 4000000000000000001 := by rw [e1]; split <;> omega
  (refine a54 ?_; simp only [n54, List.replicate, List.length_cons, List.length_nil, List.cons_append, List.nil_append])
  ((repeat (first | refine q1 ?_ | refine q2 ?_ | refine q3 ?_ | refine q4 ?_ | refine q5 ?_ | refine q6 ?_ | refine q7 ?_ | refine q8 ?_ | refine q9 ?_ | refine qa ?_ | refine qb ?_ | refine qc ?_ | refine qd ?_ | refine qe (by decide) ?_ | refine qf ?_ | refine qg ?_ | ((first | apply aops_all | apply adraw_all); (simp (disch := first | exact List.all_nil | omega | (simp only [go_sem]; done) | (simp only [ln, List.length_map]; omega) | (repeat' first | assumption | exact Ext.refl _ | refine Ext.app ?_ _)) only [go_sem]; rfl)))); (try ((first | apply aops_until | apply adraw_until); (simp (disch := first | exact List.all_nil | omega | (simp only [go_sem]; done) | (simp only [ln, List.length_map]; omega) | (repeat' first | assumption | exact Ext.refl _ | refine Ext.app ?_ _)) only [go_sem]; rfl))))
  refine cond_p rfl (fun hneg => ?_) (fun hpos => ?_)
  · ((repeat (first | refine q1 ?_ | refine q2 ?_ | refine q3 ?_ | refine q4 ?_ | refine q5 ?_ | refine q6 ?_ | refine q7 ?_ | refine q8 ?_ | refine q9 ?_ | refine qa ?_ | refine qb ?_ | refine qc ?_ | refine qd ?_ | refine qe (by decide) ?_ | refine qf ?_ | refine qg ?_ | ((first | apply aops_all | apply adraw_all); (simp (disch := first | exact List.all_nil | omega | (simp only [go_sem]; done) | (simp only [ln, List.length_map]; omega) | (repeat' first | assumption | exact Ext.refl _ | refine Ext.app ?_ _)) only [go_sem]; rfl)))); (try ((first | apply aops_until | apply adraw_until); (simp (disch := first | exact List.all_nil | omega | (simp only [go_sem]; done) | (simp only [ln, List.length_map]; omega) | (repeat' first | assumption | exact Ext.refl _ | refine Ext.app ?_ _)) only [go_sem]; rfl))))
    refine fin_1 ⟨?_, rfl⟩
    rw [e2] at hneg
    rw [e1]
    split at hneg
    · omega
    · rename_i h
      rw [if_neg h]
      simp
  · ((repeat (first | refine q1 ?_ | refine q2 ?_ | refine q3 ?_ | refine q4 ?_ | refine q5 ?_ | refine q6 ?_ | refine q7 ?_ | refine q8 ?_ | refine q9 ?_ | refine qa ?_ | refine qb ?_ | refine qc ?_ | refine qd ?_ | refine qe (by decide) ?_ | refine qf ?_ | refine qg ?_ | ((first | apply aops_all | apply adraw_all); (simp (disch := first | exact List.all_nil | omega | (simp only [go_sem]; done) | (simp only [ln, List.length_map]; omega) | (repeat' first | assumption | exact Ext.refl _ | refine Ext.app ?_ _)) only [go_sem]; rfl)))); (try ((first | apply aops_until | apply adraw_until); (simp (disch := first | exact List.all_nil | omega | (simp only [go_sem]; done) | (simp only [ln, List.length_map]; omega) | (repeat' first | assumption | exact Ext.refl _ | refine Ext.app ?_ _)) only [go_sem]; rfl))))
    refine fin_1 ⟨?_, rfl⟩
    rw [e2] at hpos
    rw [e1]
    split at hpos
    · rename_i h; rw [if_pos h]; rfl
    · omega

end
theorem firstD {P : Program} {G : AHeap} {f : FuncId} {args : List Value} {v : Value} (h : ACall P f args G fun v1 H1 => v1 = v ∧ H1 = G) : ACall P f args G fun v1 H1 => v1 = v ∧ H1 = G ++ [] :=
  h.mono fun _ _ ⟨a, b⟩ => ⟨a, by simp [b]⟩

end Go.Lq

namespace Go.Lq
open Go
open Go.Proofs
variable {H : AHeap}

theorem store_at2v {id e : Nat} {x y a b : Value} (h : H[id]? = some (.cells true e [x, y])) (ha : isAtom a = true) (hb : isAtom b = true) : storeR 2 (.pointer (some ⟨id, 0, none⟩)) (.agg ⟨[a, b]⟩) H = some (undef, H.set id (.cells true e [a, b])) := by
  have e1 : (Value.agg ⟨[a, b]⟩).cells = ⟨[a, b]⟩ := rfl
  have e2 : ([a, b] : List Value).all isAtom = true := by simp [ha, hb]
  have e3 : setCells [x, y] 0 [a, b] = [a, b] := rfl
  simp only [storeR, e1, List.size_toArray, storeAt, h, e2, e3, and_true, List.length_cons, List.length_nil]
  rfl
end Go.Lq

namespace Go.Lq
open Go
open Go.Proofs

theorem n2_at {G : AHeap} {id : Nat} {a b : Value} (h : G[id]? = some (.cells true 0 [a, b])) : loadNR 2 (.pointer (some ⟨id, 0, none⟩)) G = some (.agg ⟨[a, b]⟩, G) := loadN_at h (by simp)
theorem any_not (l : List Int) (p : Int → Bool) : (l.any fun n => !p n) = !l.all p := by rw [← List.not_all_eq_any_not]
theorem fill2v {x y a : Value} {b : Int} (ha : isAtom a = true) : fillA [x, y] [(0, 1, a), (1, 1, .int .i64 b)] = some [a, .int .i64 b] := by
  have e : a.cells = ⟨[a]⟩ := by cases a <;> first | rfl | cases ha
  have h1 : fillA [x, y] [(0, 1, a), (1, 1, .int .i64 b)] = fillA [a, y] [(1, 1, .int .i64 b)] := by
    conv => lhs; unfold fillA
    rw [e, if_pos ⟨rfl, by simp, by simp [ha]⟩]
    rfl
  rw [h1, fillA_int (by simp)]
  rfl

section
variable {H : AHeap}
theorem signalErr1_c : Asks (.func (.func 131) #[] #[]) (fun n => !decide (-32767 ≤ n ∧ n ≤ 32767)) := fun n H => by
  show ACall _ _ _ _ _
  (refine a131 ?_; simp only [n131, List.replicate, List.length_cons, List.length_nil, List.cons_append, List.nil_append])
  ((repeat (first | refine q1 ?_ | refine q2 ?_ | refine q3 ?_ | refine q4 ?_ | refine q5 ?_ | refine q6 ?_ | refine q7 ?_ | refine q8 ?_ | refine q9 ?_ | refine qa ?_ | refine qb ?_ | refine qc ?_ | refine qd ?_ | refine qe (by decide) ?_ | refine qf ?_ | refine qg ?_ | ((first | apply aops_all | apply adraw_all); (simp (disch := first | exact List.all_nil | omega | (simp only [go_sem]; done) | (simp only [ln, List.length_map]; omega) | (repeat' first | assumption | exact Ext.refl _ | refine Ext.app ?_ _)) only [go_sem]; rfl)))); (try ((first | apply aops_until | apply adraw_until); (simp (disch := first | exact List.all_nil | omega | (simp only [go_sem]; done) | (simp only [ln, List.length_map]; omega) | (repeat' first | assumption | exact Ext.refl _ | refine Ext.app ?_ _)) only [go_sem]; rfl))))
  refine aops_call_to (isSized_c _ _ (by omega)) ?_
  ((repeat (first | refine q1 ?_ | refine q2 ?_ | refine q3 ?_ | refine q4 ?_ | refine q5 ?_ | refine q6 ?_ | refine q7 ?_ | refine q8 ?_ | refine q9 ?_ | refine qa ?_ | refine qb ?_ | refine qc ?_ | refine qd ?_ | refine qe (by decide) ?_ | refine qf ?_ | refine qg ?_ | ((first | apply aops_all | apply adraw_all); (simp (disch := first | exact List.all_nil | omega | (simp only [go_sem]; done) | (simp only [ln, List.length_map]; omega) | (repeat' first | assumption | exact Ext.refl _ | refine Ext.app ?_ _)) only [go_sem]; rfl)))); (try ((first | apply aops_until | apply adraw_until); (simp (disch := first | exact List.all_nil | omega | (simp only [go_sem]; done) | (simp only [ln, List.length_map]; omega) | (repeat' first | assumption | exact Ext.refl _ | refine Ext.app ?_ _)) only [go_sem]; rfl))))
  exact fin_1 ⟨rfl, rfl⟩
theorem signalErr_c {x : List Int} {v : Value} (hx : Ints H x v) (hb : x.length ≤ 1000000000) : ACall Go.Proofs.Tryd.prog 89 [v] H fun v H' => v = .int .i64 (signalErrL x) ∧ H' = H := by
  refine ACall.drop (.int _ _) ?_
  (refine a89 ?_; simp only [n89, List.replicate, List.length_cons, List.length_nil, List.cons_append, List.nil_append])
  ((repeat (first | refine q1 ?_ | refine q2 ?_ | refine q3 ?_ | refine q4 ?_ | refine q5 ?_ | refine q6 ?_ | refine q7 ?_ | refine q8 ?_ | refine q9 ?_ | refine qa ?_ | refine qb ?_ | refine qc ?_ | refine qd ?_ | refine qe (by decide) ?_ | refine qf ?_ | refine qg ?_ | ((first | apply aops_all | apply adraw_all); (simp (disch := first | exact List.all_nil | omega | (simp only [go_sem]; done) | (simp only [ln, List.length_map]; omega) | (repeat' first | assumption | exact Ext.refl _ | refine Ext.app ?_ _)) only [go_sem]; rfl)))); (try ((first | apply aops_until | apply adraw_until); (simp (disch := first | exact List.all_nil | omega | (simp only [go_sem]; done) | (simp only [ln, List.length_map]; omega) | (repeat' first | assumption | exact Ext.refl _ | refine Ext.app ?_ _)) only [go_sem]; rfl))))
  refine aops_call_to (containsFunc_c hx signalErr1_c hb) ?_
  rw [any_not]
  ((repeat (first | refine q1 ?_ | refine q2 ?_ | refine q3 ?_ | refine q4 ?_ | refine q5 ?_ | refine q6 ?_ | refine q7 ?_ | refine q8 ?_ | refine q9 ?_ | refine qa ?_ | refine qb ?_ | refine qc ?_ | refine qd ?_ | refine qe (by decide) ?_ | refine qf ?_ | refine qg ?_ | ((first | apply aops_all | apply adraw_all); (simp (disch := first | exact List.all_nil | omega | (simp only [go_sem]; done) | (simp only [ln, List.length_map]; omega) | (repeat' first | assumption | exact Ext.refl _ | refine Ext.app ?_ _)) only [go_sem, hx.len, hx.idx, hx.load]; rfl)))); (try ((first | apply aops_until | apply adraw_until); (simp (disch := first | exact List.all_nil | omega | (simp only [go_sem]; done) | (simp only [ln, List.length_map]; omega) | (repeat' first | assumption | exact Ext.refl _ | refine Ext.app ?_ _)) only [go_sem, hx.len, hx.idx, hx.load]; rfl))))
  refine aops_call_to (unless_c _ _) ?_
  ((repeat (first | refine q1 ?_ | refine q2 ?_ | refine q3 ?_ | refine q4 ?_ | refine q5 ?_ | refine q6 ?_ | refine q7 ?_ | refine q8 ?_ | refine q9 ?_ | refine qa ?_ | refine qb ?_ | refine qc ?_ | refine qd ?_ | refine qe (by decide) ?_ | refine qf ?_ | refine qg ?_ | ((first | apply aops_all | apply adraw_all); (simp (disch := first | exact List.all_nil | omega | (simp only [go_sem]; done) | (simp only [ln, List.length_map]; omega) | (repeat' first | assumption | exact Ext.refl _ | refine Ext.app ?_ _)) only [go_sem]; rfl)))); (try ((first | apply aops_until | apply adraw_until); (simp (disch := first | exact List.all_nil | omega | (simp only [go_sem]; done) | (simp only [ln, List.length_map]; omega) | (repeat' first | assumption | exact Ext.refl _ | refine Ext.app ?_ _)) only [go_sem]; rfl))))
  refine aops_call_to (unless_c _ _) ?_
  ((repeat (first | refine q1 ?_ | refine q2 ?_ | refine q3 ?_ | refine q4 ?_ | refine q5 ?_ | refine q6 ?_ | refine q7 ?_ | refine q8 ?_ | refine q9 ?_ | refine qa ?_ | refine qb ?_ | refine qc ?_ | refine qd ?_ | refine qe (by decide) ?_ | refine qf ?_ | refine qg ?_ | ((first | apply aops_all | apply adraw_all); (simp (disch := first | exact List.all_nil | omega | (simp only [go_sem]; done) | (simp only [ln, List.length_map]; omega) | (repeat' first | assumption | exact Ext.refl _ | refine Ext.app ?_ _)) only [go_sem]; rfl)))); (try ((first | apply aops_until | apply adraw_until); (simp (disch := first | exact List.all_nil | omega | (simp only [go_sem]; done) | (simp only [ln, List.length_map]; omega) | (repeat' first | assumption | exact Ext.refl _ | refine Ext.app ?_ _)) only [go_sem]; rfl))))
  refine aops_call_to (first_c (l := [_, _]) (Ints.last (l := [_, _]) 2) (by simp)) ?_
  ((repeat (first | refine q1 ?_ | refine q2 ?_ | refine q3 ?_ | refine q4 ?_ | refine q5 ?_ | refine q6 ?_ | refine q7 ?_ | refine q8 ?_ | refine q9 ?_ | refine qa ?_ | refine qb ?_ | refine qc ?_ | refine qd ?_ | refine qe (by decide) ?_ | refine qf ?_ | refine qg ?_ | ((first | apply aops_all | apply adraw_all); (simp (disch := first | exact List.all_nil | omega | (simp only [go_sem]; done) | (simp only [ln, List.length_map]; omega) | (repeat' first | assumption | exact Ext.refl _ | refine Ext.app ?_ _)) only [go_sem]; rfl)))); (try ((first | apply aops_until | apply adraw_until); (simp (disch := first | exact List.all_nil | omega | (simp only [go_sem]; done) | (simp only [ln, List.length_map]; omega) | (repeat' first | assumption | exact Ext.refl _ | refine Ext.app ?_ _)) only [go_sem]; rfl))))
  refine fin_1 ⟨?_, (Ext.refl _).app _⟩
  unfold signalErrL
  by_cases h1 : 400 < x.length
  · have : ¬ (x.length : Int) ≤ 400 := by omega
    simp [firstErr, h1, this]
  · have : (x.length : Int) ≤ 400 := by omega
    cases hq : x.all (fun n => decide (-32767 ≤ n ∧ n ≤ 32767)) <;> simp [firstErr, h1, this]
theorem refSignalErr_c {x : List Int} {v : Value} (hx : Ints H x v) (hb : x.length ≤ 1000000000) : ACall Go.Proofs.Tryd.prog 28 [v] H fun v H' => v = .int .i64 (signalErrL x) ∧ H' = H := by
  (refine a28 ?_; simp only [n28, List.replicate, List.length_cons, List.length_nil, List.cons_append, List.nil_append])
  ((repeat (first | refine q1 ?_ | refine q2 ?_ | refine q3 ?_ | refine q4 ?_ | refine q5 ?_ | refine q6 ?_ | refine q7 ?_ | refine q8 ?_ | refine q9 ?_ | refine qa ?_ | refine qb ?_ | refine qc ?_ | refine qd ?_ | refine qe (by decide) ?_ | refine qf ?_ | refine qg ?_ | ((first | apply aops_all | apply adraw_all); (simp (disch := first | exact List.all_nil | omega | (simp only [go_sem]; done) | (simp only [ln, List.length_map]; omega) | (repeat' first | assumption | exact Ext.refl _ | refine Ext.app ?_ _)) only [go_sem, hx.len, hx.idx, hx.load]; rfl)))); (try ((first | apply aops_until | apply adraw_until); (simp (disch := first | exact List.all_nil | omega | (simp only [go_sem]; done) | (simp only [ln, List.length_map]; omega) | (repeat' first | assumption | exact Ext.refl _ | refine Ext.app ?_ _)) only [go_sem, hx.len, hx.idx, hx.load]; rfl))))
  refine cond_p rfl (fun hlt => ?_) (fun hge => ?_)
  · ((repeat (first | refine q1 ?_ | refine q2 ?_ | refine q3 ?_ | refine q4 ?_ | refine q5 ?_ | refine q6 ?_ | refine q7 ?_ | refine q8 ?_ | refine q9 ?_ | refine qa ?_ | refine qb ?_ | refine qc ?_ | refine qd ?_ | refine qe (by decide) ?_ | refine qf ?_ | refine qg ?_ | ((first | apply aops_all | apply adraw_all); (simp (disch := first | exact List.all_nil | omega | (simp only [go_sem]; done) | (simp only [ln, List.length_map]; omega) | (repeat' first | assumption | exact Ext.refl _ | refine Ext.app ?_ _)) only [go_sem]; rfl)))); (try ((first | apply aops_until | apply adraw_until); (simp (disch := first | exact List.all_nil | omega | (simp only [go_sem]; done) | (simp only [ln, List.length_map]; omega) | (repeat' first | assumption | exact Ext.refl _ | refine Ext.app ?_ _)) only [go_sem]; rfl))))
    refine fin_1 ⟨?_, rfl⟩
    unfold signalErrL
    rw [if_pos (by omega)]; rfl
  · ((repeat (first | refine q1 ?_ | refine q2 ?_ | refine q3 ?_ | refine q4 ?_ | refine q5 ?_ | refine q6 ?_ | refine q7 ?_ | refine q8 ?_ | refine q9 ?_ | refine qa ?_ | refine qb ?_ | refine qc ?_ | refine qd ?_ | refine qe (by decide) ?_ | refine qf ?_ | refine qg ?_ | ((first | apply aops_all | apply adraw_all); (simp (disch := first | exact List.all_nil | omega | (simp only [go_sem]; done) | (simp only [ln, List.length_map]; omega) | (repeat' first | assumption | exact Ext.refl _ | refine Ext.app ?_ _)) only [go_sem]; rfl)))); (try ((first | apply aops_until | apply adraw_until); (simp (disch := first | exact List.all_nil | omega | (simp only [go_sem]; done) | (simp only [ln, List.length_map]; omega) | (repeat' first | assumption | exact Ext.refl _ | refine Ext.app ?_ _)) only [go_sem]; rfl))))
    refine awp_loop_n [true, false, false, true, false, false, false, false, false, false, false, false, false, false, false, false, false, false, false] x.length (fun i e H' => H' = H ∧ e = [v, junk, junk, .int .i64 i, junk, junk, junk, junk, junk, junk, junk, junk, junk, junk, junk, junk, junk, junk, junk] ∧ ∀ j < i, decide (-32767 ≤ x.getD j 0 ∧ x.getD j 0 ≤ 32767) = true) ?_ ?_
    · exact ⟨rfl, rfl, by omega⟩
    · rintro i e H' hi ⟨rfl, rfl, hp⟩
      ((repeat (first | refine q1 ?_ | refine q2 ?_ | refine q3 ?_ | refine q4 ?_ | refine q5 ?_ | refine q6 ?_ | refine q7 ?_ | refine q8 ?_ | refine q9 ?_ | refine qa ?_ | refine qb ?_ | refine qc ?_ | refine qd ?_ | refine qe (by decide) ?_ | refine qf ?_ | refine qg ?_ | ((first | apply aops_all | apply adraw_all); (simp (disch := first | exact List.all_nil | omega | (simp only [go_sem]; done) | (simp only [ln, List.length_map]; omega) | (repeat' first | assumption | exact Ext.refl _ | refine Ext.app ?_ _)) only [go_sem, hx.len, hx.idx, hx.load]; rfl)))); (try ((first | apply aops_until | apply adraw_until); (simp (disch := first | exact List.all_nil | omega | (simp only [go_sem]; done) | (simp only [ln, List.length_map]; omega) | (repeat' first | assumption | exact Ext.refl _ | refine Ext.app ?_ _)) only [go_sem, hx.len, hx.idx, hx.load]; rfl))))
      refine cond_p rfl (fun hlt => ?_) (fun hge => ?_)
      · ((repeat (first | refine q1 ?_ | refine q2 ?_ | refine q3 ?_ | refine q4 ?_ | refine q5 ?_ | refine q6 ?_ | refine q7 ?_ | refine q8 ?_ | refine q9 ?_ | refine qa ?_ | refine qb ?_ | refine qc ?_ | refine qd ?_ | refine qe (by decide) ?_ | refine qf ?_ | refine qg ?_ | ((first | apply aops_all | apply adraw_all); (simp (disch := first | exact List.all_nil | omega | (simp only [go_sem]; done) | (simp only [ln, List.length_map]; omega) | (repeat' first | assumption | exact Ext.refl _ | refine Ext.app ?_ _)) only [go_sem, hx.len, hx.idx, hx.load]; rfl)))); (try ((first | apply aops_until | apply adraw_until); (simp (disch := first | exact List.all_nil | omega | (simp only [go_sem]; done) | (simp only [ln, List.length_map]; omega) | (repeat' first | assumption | exact Ext.refl _ | refine Ext.app ?_ _)) only [go_sem, hx.len, hx.idx, hx.load]; rfl))))
        refine aops_call_to (bwithin_c _ _ _) ?_
        ((repeat (first | refine q1 ?_ | refine q2 ?_ | refine q3 ?_ | refine q4 ?_ | refine q5 ?_ | refine q6 ?_ | refine q7 ?_ | refine q8 ?_ | refine q9 ?_ | refine qa ?_ | refine qb ?_ | refine qc ?_ | refine qd ?_ | refine qe (by decide) ?_ | refine qf ?_ | refine qg ?_ | ((first | apply aops_all | apply adraw_all); (simp (disch := first | exact List.all_nil | omega | (simp only [go_sem]; done) | (simp only [ln, List.length_map]; omega) | (repeat' first | assumption | exact Ext.refl _ | refine Ext.app ?_ _)) only [go_sem]; rfl)))); (try ((first | apply aops_until | apply adraw_until); (simp (disch := first | exact List.all_nil | omega | (simp only [go_sem]; done) | (simp only [ln, List.length_map]; omega) | (repeat' first | assumption | exact Ext.refl _ | refine Ext.app ?_ _)) only [go_sem]; rfl))))
        refine cond_n rfl (fun hne => ?_) (fun heq => ?_)
        · ((repeat (first | refine q1 ?_ | refine q2 ?_ | refine q3 ?_ | refine q4 ?_ | refine q5 ?_ | refine q6 ?_ | refine q7 ?_ | refine q8 ?_ | refine q9 ?_ | refine qa ?_ | refine qb ?_ | refine qc ?_ | refine qd ?_ | refine qe (by decide) ?_ | refine qf ?_ | refine qg ?_ | ((first | apply aops_all | apply adraw_all); (simp (disch := first | exact List.all_nil | omega | (simp only [go_sem]; done) | (simp only [ln, List.length_map]; omega) | (repeat' first | assumption | exact Ext.refl _ | refine Ext.app ?_ _)) only [go_sem]; rfl)))); (try ((first | apply aops_until | apply adraw_until); (simp (disch := first | exact List.all_nil | omega | (simp only [go_sem]; done) | (simp only [ln, List.length_map]; omega) | (repeat' first | assumption | exact Ext.refl _ | refine Ext.app ?_ _)) only [go_sem]; rfl))))
          refine fin_1 ⟨?_, rfl⟩
          have : x.all (fun n => decide (-32767 ≤ n ∧ n ≤ 32767)) = false := all_false (d := 0) (i := i) (by omega) (by simpa using hne)
          unfold signalErrL
          rw [if_neg (by omega), this]; rfl
        · ((repeat (first | refine q1 ?_ | refine q2 ?_ | refine q3 ?_ | refine q4 ?_ | refine q5 ?_ | refine q6 ?_ | refine q7 ?_ | refine q8 ?_ | refine q9 ?_ | refine qa ?_ | refine qb ?_ | refine qc ?_ | refine qd ?_ | refine qe (by decide) ?_ | refine qf ?_ | refine qg ?_ | ((first | apply aops_all | apply adraw_all); (simp (disch := first | exact List.all_nil | omega | (simp only [go_sem]; done) | (simp only [ln, List.length_map]; omega) | (repeat' first | assumption | exact Ext.refl _ | refine Ext.app ?_ _)) only [go_sem]; rfl)))); (try ((first | apply aops_until | apply adraw_until); (simp (disch := first | exact List.all_nil | omega | (simp only [go_sem]; done) | (simp only [ln, List.length_map]; omega) | (repeat' first | assumption | exact Ext.refl _ | refine Ext.app ?_ _)) only [go_sem]; rfl))))
          refine ⟨by omega, rfl, by simp [forget], fun j hj => ?_⟩
          by_cases h : j = i
          · subst h; exact decide_eq_true heq
          · exact hp j (by omega)
      · ((repeat (first | refine q1 ?_ | refine q2 ?_ | refine q3 ?_ | refine q4 ?_ | refine q5 ?_ | refine q6 ?_ | refine q7 ?_ | refine q8 ?_ | refine q9 ?_ | refine qa ?_ | refine qb ?_ | refine qc ?_ | refine qd ?_ | refine qe (by decide) ?_ | refine qf ?_ | refine qg ?_ | ((first | apply aops_all | apply adraw_all); (simp (disch := first | exact List.all_nil | omega | (simp only [go_sem]; done) | (simp only [ln, List.length_map]; omega) | (repeat' first | assumption | exact Ext.refl _ | refine Ext.app ?_ _)) only [go_sem]; rfl)))); (try ((first | apply aops_until | apply adraw_until); (simp (disch := first | exact List.all_nil | omega | (simp only [go_sem]; done) | (simp only [ln, List.length_map]; omega) | (repeat' first | assumption | exact Ext.refl _ | refine Ext.app ?_ _)) only [go_sem]; rfl))))
        refine fin_1 ⟨?_, rfl⟩
        have : x.all (fun n => decide (-32767 ≤ n ∧ n ≤ 32767)) = true := all_true (d := 0) fun j hj => hp j (by omega)
        unfold signalErrL
        rw [if_neg (by omega), this]; rfl
end
end Go.Lq

namespace Go.Lq
open Go
open Go.Proofs

def nilR (v : Value) (H : AHeap) : Option (Value × AHeap) := match v with | .pointer (some a) => some (.pointer (some a), H) | .func (.func f) xs ys => some (.func (.func f) xs ys, H) | _ => none
theorem r_nilCheck {ρ : Operand → Value} {H : AHeap} {x : Operand} : ropRun (.nilCheck x) ρ H = nilR (ρ x) H := rfl
theorem nil_ptr {a : Addr} {H : AHeap} : nilR (.pointer (some a)) H = some (.pointer (some a), H) := rfl
attribute [go_sem] r_nilCheck nil_ptr

section
variable {H : AHeap}
end
end Go.Lq





namespace Go.Lq
open Go
open Go.Proofs

attribute [go_sem] Bool.false_bne Bool.true_bne
theorem gcdI_step {a b : Int} : gcdI b (a.tmod b) = gcdI a b := by
  unfold gcdI Int.gcd
  rw [Int.natAbs_tmod, Nat.gcd_comm b.natAbs, ← Nat.gcd_rec, Nat.gcd_comm]
theorem gcdI_zero (a : Int) : gcdI a 0 = max a (-a) := by
  unfold gcdI
  rw [Int.gcd_zero_right]
  omega
theorem tmod_small {a b : Int} (hb : b ≠ 0) : (a.tmod b).natAbs < b.natAbs := by
  rw [Int.natAbs_tmod]
  exact Nat.mod_lt _ (by omega)
theorem gcdI_le {n d : Int} (hd : 0 < d) : gcdI n d ≤ d := by
  unfold gcdI
  have := Nat.le_of_dvd (show 0 < d.natAbs by omega) (Nat.gcd_dvd_right n.natAbs d.natAbs)
  unfold Int.gcd
  omega
theorem low_tdiv {n d : Int} : n.tdiv (gcdI n d) = (lowF n d).1 ∧ d.tdiv (gcdI n d) = (lowF n d).2 :=
  ⟨Int.tdiv_eq_ediv_of_dvd (Int.gcd_dvd_left ..), Int.tdiv_eq_ediv_of_dvd (Int.gcd_dvd_right ..)⟩
theorem lowF_bound {n d : Int} {m : Nat} (hd : 0 < d) (h : -(m : Int) ≤ n ∧ n ≤ m) : -(m : Int) ≤ (lowF n d).1 ∧ (lowF n d).1 ≤ m := ediv_bound (gcdI_pos hd) h
theorem lowF_den_le {n d : Int} (hd : 0 < d) : (lowF n d).2 ≤ d := Int.ediv_le_self _ (by omega)
abbrev fracV (p : Int × Int) : Value := .agg ⟨[.int .i64 p.1, .int .i64 p.2]⟩
theorem closed_frac (p : Int × Int) : Closed (fracV p) := .agg _ (closed_list (l := [.int .i64 p.1, .int .i64 p.2]) fun v hv => by
  simp only [List.mem_cons, List.not_mem_nil, or_false] at hv
  rcases hv with rfl | rfl <;> exact .int _ _)
theorem closed_frac1 (p : Int × Int) (e : Int) : Closed (.tuple #[fracV p, .int .i64 e]) := .tuple _ (closed_list (l := [fracV p, .int .i64 e]) fun v hv => by
  simp only [List.mem_cons, List.not_mem_nil, or_false] at hv
  rcases hv with rfl | rfl
  · exact closed_frac p
  · exact .int _ _)
theorem fill2i {x y : Value} {a b : Int} : fillA [x, y] [(0, 1, .int .i64 a), (1, 1, .int .i64 b)] = some [.int .i64 a, .int .i64 b] := fill2v rfl

section
variable {H : AHeap}
theorem divisor_c (n d : Int) (hn : -4000000000000000000 ≤ n ∧ n ≤ 4000000000000000000) (hd : -4000000000000000000 ≤ d ∧ d ≤ 4000000000000000000) :
    ACall Go.Proofs.Tryd.prog 144 [.int .i64 n, .int .i64 d] H fun v H' => v = .int .i64 (gcdI n d) ∧ H' = H := by
  (refine a144 ?_; simp only [n144, List.replicate, List.length_cons, List.length_nil, List.cons_append, List.nil_append])
  ((repeat (first | refine q1 ?_ | refine q2 ?_ | refine q3 ?_ | refine q4 ?_ | refine q5 ?_ | refine q6 ?_ | refine q7 ?_ | refine q8 ?_ | refine q9 ?_ | refine qa ?_ | refine qb ?_ | refine qc ?_ | refine qd ?_ | refine qe (by decide) ?_ | refine qf ?_ | refine qg ?_ | ((first | apply aops_all | apply adraw_all); (simp (disch := first | exact List.all_nil | omega | (simp only [go_sem]; done) | (simp only [ln, List.length_map]; omega) | (repeat' first | assumption | exact Ext.refl _ | refine Ext.app ?_ _)) only [go_sem]; rfl)))); (try ((first | apply aops_until | apply adraw_until); (simp (disch := first | exact List.all_nil | omega | (simp only [go_sem]; done) | (simp only [ln, List.length_map]; omega) | (repeat' first | assumption | exact Ext.refl _ | refine Ext.app ?_ _)) only [go_sem]; rfl))))
  refine awp_loop [true, true, false, false, false, false, false, false, false, false, false, false, false, false, false] (fun k e H' => H' = H ∧ ∃ a b : Int, k = b.natAbs ∧ gcdI a b = gcdI n d ∧ (-4000000000000000000 ≤ a ∧ a ≤ 4000000000000000000) ∧ (-4000000000000000000 ≤ b ∧ b ≤ 4000000000000000000) ∧ e = [.int .i64 a, .int .i64 b, junk, junk, junk, junk, junk, junk, junk, junk, junk, junk, junk, junk, junk]) d.natAbs ?_ ?_
  · exact ⟨rfl, n, d, rfl, rfl, hn, hd, rfl⟩
  rintro k e H' ⟨rfl, a, b, rfl, hg, ha, hb, rfl⟩
  ((repeat (first | refine q1 ?_ | refine q2 ?_ | refine q3 ?_ | refine q4 ?_ | refine q5 ?_ | refine q6 ?_ | refine q7 ?_ | refine q8 ?_ | refine q9 ?_ | refine qa ?_ | refine qb ?_ | refine qc ?_ | refine qd ?_ | refine qe (by decide) ?_ | refine qf ?_ | refine qg ?_ | ((first | apply aops_all | apply adraw_all); (simp (disch := first | exact List.all_nil | omega | (simp only [go_sem]; done) | (simp only [ln, List.length_map]; omega) | (repeat' first | assumption | exact Ext.refl _ | refine Ext.app ?_ _)) only [go_sem]; rfl)))); (try ((first | apply aops_until | apply adraw_until); (simp (disch := first | exact List.all_nil | omega | (simp only [go_sem]; done) | (simp only [ln, List.length_map]; omega) | (repeat' first | assumption | exact Ext.refl _ | refine Ext.app ?_ _)) only [go_sem]; rfl))))
  refine cond_p rfl (fun hne => ?_) (fun heq => ?_)
  · have hm := tmod_small (a := a) hne
    ((repeat (first | refine q1 ?_ | refine q2 ?_ | refine q3 ?_ | refine q4 ?_ | refine q5 ?_ | refine q6 ?_ | refine q7 ?_ | refine q8 ?_ | refine q9 ?_ | refine qa ?_ | refine qb ?_ | refine qc ?_ | refine qd ?_ | refine qe (by decide) ?_ | refine qf ?_ | refine qg ?_ | ((first | apply aops_all | apply adraw_all); (simp (disch := first | exact List.all_nil | omega | (simp only [go_sem]; done) | (simp only [ln, List.length_map]; omega) | (repeat' first | assumption | exact Ext.refl _ | refine Ext.app ?_ _)) only [go_sem, a_rem hne]; rfl)))); (try ((first | apply aops_until | apply adraw_until); (simp (disch := first | exact List.all_nil | omega | (simp only [go_sem]; done) | (simp only [ln, List.length_map]; omega) | (repeat' first | assumption | exact Ext.refl _ | refine Ext.app ?_ _)) only [go_sem, a_rem hne]; rfl))))
    exact ⟨_, hm, rfl, b, a.tmod b, rfl, gcdI_step.trans hg, hb, by omega, rfl⟩
  · have h0 : b = 0 := by omega
    subst h0
    ((repeat (first | refine q1 ?_ | refine q2 ?_ | refine q3 ?_ | refine q4 ?_ | refine q5 ?_ | refine q6 ?_ | refine q7 ?_ | refine q8 ?_ | refine q9 ?_ | refine qa ?_ | refine qb ?_ | refine qc ?_ | refine qd ?_ | refine qe (by decide) ?_ | refine qf ?_ | refine qg ?_ | ((first | apply aops_all | apply adraw_all); (simp (disch := first | exact List.all_nil | omega | (simp only [go_sem]; done) | (simp only [ln, List.length_map]; omega) | (repeat' first | assumption | exact Ext.refl _ | refine Ext.app ?_ _)) only [go_sem]; rfl)))); (try ((first | apply aops_until | apply adraw_until); (simp (disch := first | exact List.all_nil | omega | (simp only [go_sem]; done) | (simp only [ln, List.length_map]; omega) | (repeat' first | assumption | exact Ext.refl _ | refine Ext.app ?_ _)) only [go_sem]; rfl))))
    exact fin_1 ⟨by rw [← hg, gcdI_zero]; simp, rfl⟩
theorem bgcd_c (n d : Int) (hn : -4000000000000000000 ≤ n ∧ n ≤ 4000000000000000000) (hd : -4000000000000000000 ≤ d ∧ d ≤ 4000000000000000000) :
    ACall Go.Proofs.Tryd.prog 122 [.int .i64 n, .int .i64 d] H fun v H' => v = .int .i64 (gcdI n d) ∧ H' = H := by
  (refine a122 ?_; simp only [n122, List.replicate, List.length_cons, List.length_nil, List.cons_append, List.nil_append])
  ((repeat (first | refine q1 ?_ | refine q2 ?_ | refine q3 ?_ | refine q4 ?_ | refine q5 ?_ | refine q6 ?_ | refine q7 ?_ | refine q8 ?_ | refine q9 ?_ | refine qa ?_ | refine qb ?_ | refine qc ?_ | refine qd ?_ | refine qe (by decide) ?_ | refine qf ?_ | refine qg ?_ | ((first | apply aops_all | apply adraw_all); (simp (disch := first | exact List.all_nil | omega | (simp only [go_sem]; done) | (simp only [ln, List.length_map]; omega) | (repeat' first | assumption | exact Ext.refl _ | refine Ext.app ?_ _)) only [go_sem]; rfl)))); (try ((first | apply aops_until | apply adraw_until); (simp (disch := first | exact List.all_nil | omega | (simp only [go_sem]; done) | (simp only [ln, List.length_map]; omega) | (repeat' first | assumption | exact Ext.refl _ | refine Ext.app ?_ _)) only [go_sem]; rfl))))
  refine awp_loop [true, true, false, false, false, false, false, false, false, false, false, false, false] (fun k e H' => H' = H ∧ ∃ a b : Int, k = b.natAbs ∧ gcdI a b = gcdI n d ∧ (-4000000000000000000 ≤ a ∧ a ≤ 4000000000000000000) ∧ (-4000000000000000000 ≤ b ∧ b ≤ 4000000000000000000) ∧ e = [.int .i64 a, .int .i64 b, junk, junk, junk, junk, junk, junk, junk, junk, junk, junk, junk]) d.natAbs ?_ ?_
  · exact ⟨rfl, n, d, rfl, rfl, hn, hd, rfl⟩
  rintro k e H' ⟨rfl, a, b, rfl, hg, ha, hb, rfl⟩
  ((repeat (first | refine q1 ?_ | refine q2 ?_ | refine q3 ?_ | refine q4 ?_ | refine q5 ?_ | refine q6 ?_ | refine q7 ?_ | refine q8 ?_ | refine q9 ?_ | refine qa ?_ | refine qb ?_ | refine qc ?_ | refine qd ?_ | refine qe (by decide) ?_ | refine qf ?_ | refine qg ?_ | ((first | apply aops_all | apply adraw_all); (simp (disch := first | exact List.all_nil | omega | (simp only [go_sem]; done) | (simp only [ln, List.length_map]; omega) | (repeat' first | assumption | exact Ext.refl _ | refine Ext.app ?_ _)) only [go_sem]; rfl)))); (try ((first | apply aops_until | apply adraw_until); (simp (disch := first | exact List.all_nil | omega | (simp only [go_sem]; done) | (simp only [ln, List.length_map]; omega) | (repeat' first | assumption | exact Ext.refl _ | refine Ext.app ?_ _)) only [go_sem]; rfl))))
  refine cond_p rfl (fun hne => ?_) (fun heq => ?_)
  · have hm := tmod_small (a := a) hne
    ((repeat (first | refine q1 ?_ | refine q2 ?_ | refine q3 ?_ | refine q4 ?_ | refine q5 ?_ | refine q6 ?_ | refine q7 ?_ | refine q8 ?_ | refine q9 ?_ | refine qa ?_ | refine qb ?_ | refine qc ?_ | refine qd ?_ | refine qe (by decide) ?_ | refine qf ?_ | refine qg ?_ | ((first | apply aops_all | apply adraw_all); (simp (disch := first | exact List.all_nil | omega | (simp only [go_sem]; done) | (simp only [ln, List.length_map]; omega) | (repeat' first | assumption | exact Ext.refl _ | refine Ext.app ?_ _)) only [go_sem, a_rem hne]; rfl)))); (try ((first | apply aops_until | apply adraw_until); (simp (disch := first | exact List.all_nil | omega | (simp only [go_sem]; done) | (simp only [ln, List.length_map]; omega) | (repeat' first | assumption | exact Ext.refl _ | refine Ext.app ?_ _)) only [go_sem, a_rem hne]; rfl))))
    exact ⟨_, hm, rfl, b, a.tmod b, rfl, gcdI_step.trans hg, hb, by omega, rfl⟩
  · have h0 : b = 0 := by omega
    subst h0
    ((repeat (first | refine q1 ?_ | refine q2 ?_ | refine q3 ?_ | refine q4 ?_ | refine q5 ?_ | refine q6 ?_ | refine q7 ?_ | refine q8 ?_ | refine q9 ?_ | refine qa ?_ | refine qb ?_ | refine qc ?_ | refine qd ?_ | refine qe (by decide) ?_ | refine qf ?_ | refine qg ?_ | ((first | apply aops_all | apply adraw_all); (simp (disch := first | exact List.all_nil | omega | (simp only [go_sem]; done) | (simp only [ln, List.length_map]; omega) | (repeat' first | assumption | exact Ext.refl _ | refine Ext.app ?_ _)) only [go_sem]; rfl)))); (try ((first | apply aops_until | apply adraw_until); (simp (disch := first | exact List.all_nil | omega | (simp only [go_sem]; done) | (simp only [ln, List.length_map]; omega) | (repeat' first | assumption | exact Ext.refl _ | refine Ext.app ?_ _)) only [go_sem]; rfl))))
    refine aops_call_to (bsize_c _ (by omega)) ?_
    ((repeat (first | refine q1 ?_ | refine q2 ?_ | refine q3 ?_ | refine q4 ?_ | refine q5 ?_ | refine q6 ?_ | refine q7 ?_ | refine q8 ?_ | refine q9 ?_ | refine qa ?_ | refine qb ?_ | refine qc ?_ | refine qd ?_ | refine qe (by decide) ?_ | refine qf ?_ | refine qg ?_ | ((first | apply aops_all | apply adraw_all); (simp (disch := first | exact List.all_nil | omega | (simp only [go_sem]; done) | (simp only [ln, List.length_map]; omega) | (repeat' first | assumption | exact Ext.refl _ | refine Ext.app ?_ _)) only [go_sem]; rfl)))); (try ((first | apply aops_until | apply adraw_until); (simp (disch := first | exact List.all_nil | omega | (simp only [go_sem]; done) | (simp only [ln, List.length_map]; omega) | (repeat' first | assumption | exact Ext.refl _ | refine Ext.app ?_ _)) only [go_sem]; rfl))))
    exact fin_1 ⟨by rw [← hg, gcdI_zero]; rfl, rfl⟩
theorem lowest_c (n d : Int) (hn : -4000000000000000000 ≤ n ∧ n ≤ 4000000000000000000) (hd : 0 < d ∧ d ≤ 4000000000000000000) :
    ACall Go.Proofs.Tryd.prog 121 [.int .i64 n, .int .i64 d] H fun v H' => v = fracV (lowF n d) ∧ H' = H := by
  have hp := gcdI_pos (n := n) hd.1
  have ne : gcdI n d ≠ 0 := by omega
  obtain ⟨e1, e2⟩ := low_tdiv (n := n) (d := d)
  have b1 := lowF_bound (n := n) (d := d) (m := 4000000000000000000) hd.1 ⟨by omega, by omega⟩
  have b2 := lowF_den_le (n := n) hd.1
  have b3 := lowF_pos (n := n) hd.1
  refine ACall.drop (closed_frac _) ?_
  (refine a121 ?_; simp only [n121, List.replicate, List.length_cons, List.length_nil, List.cons_append, List.nil_append])
  ((repeat (first | refine q1 ?_ | refine q2 ?_ | refine q3 ?_ | refine q4 ?_ | refine q5 ?_ | refine q6 ?_ | refine q7 ?_ | refine q8 ?_ | refine q9 ?_ | refine qa ?_ | refine qb ?_ | refine qc ?_ | refine qd ?_ | refine qe (by decide) ?_ | refine qf ?_ | refine qg ?_ | ((first | apply aops_all | apply adraw_all); (simp (disch := first | exact List.all_nil | omega | (simp only [go_sem]; done) | (simp only [ln, List.length_map]; omega) | (repeat' first | assumption | exact Ext.refl _ | refine Ext.app ?_ _)) only [go_sem]; rfl)))); (try ((first | apply aops_until | apply adraw_until); (simp (disch := first | exact List.all_nil | omega | (simp only [go_sem]; done) | (simp only [ln, List.length_map]; omega) | (repeat' first | assumption | exact Ext.refl _ | refine Ext.app ?_ _)) only [go_sem]; rfl))))
  refine aops_call_to (divisor_c n d hn ⟨by omega, hd.2⟩) ?_
  generalize gcdI n d = g at *
  generalize lowF n d = p at *
  ((repeat (first | refine q1 ?_ | refine q2 ?_ | refine q3 ?_ | refine q4 ?_ | refine q5 ?_ | refine q6 ?_ | refine q7 ?_ | refine q8 ?_ | refine q9 ?_ | refine qa ?_ | refine qb ?_ | refine qc ?_ | refine qd ?_ | refine qe (by decide) ?_ | refine qf ?_ | refine qg ?_ | ((first | apply aops_all | apply adraw_all); (simp (disch := first | exact List.all_nil | omega | (simp only [go_sem]; done) | (simp only [ln, List.length_map]; omega) | (repeat' first | assumption | exact Ext.refl _ | refine Ext.app ?_ _)) only [go_sem, a_quo ne, e1, e2, fill2i]; rfl)))); (try ((first | apply aops_until | apply adraw_until); (simp (disch := first | exact List.all_nil | omega | (simp only [go_sem]; done) | (simp only [ln, List.length_map]; omega) | (repeat' first | assumption | exact Ext.refl _ | refine Ext.app ?_ _)) only [go_sem, a_quo ne, e1, e2, fill2i]; rfl))))
  refine fin_l1 (u := fracV p) ?_ ?_
  · exact loadN_at at_new (by simp)
  · exact ⟨rfl, (Ext.refl _).app _⟩
end
end Go.Lq

namespace Go.Lq
open Go
open Go.Proofs

theorem isAtom_nilFunc : isAtom .nilFunc = true := rfl
theorem constOk_nilFunc : constOk .nilFunc = true := rfl
attribute [go_sem] r_idxA isAtom_nilFunc constOk_nilFunc
def wFn (deg : Int) : FuncId := if deg = 1 then 173 else 175
def pFn (deg : Int) : FuncId := if deg = 1 then 174 else 176
abbrev fnV (f : FuncId) : Value := .func (.func f) #[] #[]
def kern (deg : Int) : List Value := [.int .i64 (fromL deg), .int .i64 (denL deg), fnV (wFn deg), fnV (pFn deg), .int .i64 (rdenL deg)]
theorem kern_atoms (deg : Int) : (kern deg).all isAtom = true := rfl
theorem kern_idx {H : AHeap} {deg : Int} (hd : deg = 1 ∨ deg = 3) : idxAR 4 5 (.pointer (some ⟨0, 0, none⟩)) (.int .i64 deg) H = some (.pointer (some ⟨0, (5 * deg).toNat, none⟩), H) := by
  rcases hd with rfl | rfl
  · exact idxA_at (n := 1) (by omega)
  · exact idxA_at (n := 3) (by omega)
theorem kern_load {H : AHeap} (hx : Ext H0 H) {deg : Int} (hd : deg = 1 ∨ deg = 3) : loadNR 5 (.pointer (some ⟨0, (5 * deg).toNat, none⟩)) H = some (.agg ⟨kern deg⟩, H) := by
  have h0 : H[0]? = some (.cells false 5 kernelCells) := by rw [hx.get (by decide)]; rfl
  rcases hd with rfl | rfl
  · exact loadN_at h0 (by decide)
  · exact loadN_at h0 (by decide)
theorem box_kern {H : AHeap} {deg : Int} : boxR (.agg ⟨kern deg⟩) H = some (.pointer (some ⟨H.length, 0, none⟩), H ++ [.cells true 0 (kern deg)]) := box_agg (kern_atoms deg)
theorem store_kern {H : AHeap} {deg : Int} {a b c d e : Value} : storeR 5 (.pointer (some ⟨H.length, 0, none⟩)) (.agg ⟨kern deg⟩) (H ++ [.cells true 0 [a, b, c, d, e]]) = some (undef, H ++ [.cells true 0 (kern deg)]) := store_newN (kern_atoms deg) rfl rfl
section
variable {G : AHeap} {id : Nat} {deg : Int} {e : Nat}
theorem kern_from (h : G[id]? = some (.cells true e (kern deg))) : loadR (.pointer (some ⟨id, 0, none⟩)) G = some (.int .i64 (fromL deg), G) := by rw [load_at h]; rfl
theorem kern_den (h : G[id]? = some (.cells true e (kern deg))) : loadR (.pointer (some ⟨id, 1, none⟩)) G = some (.int .i64 (denL deg), G) := by rw [load_at h]; rfl
theorem kern_w (h : G[id]? = some (.cells true e (kern deg))) : loadR (.pointer (some ⟨id, 2, none⟩)) G = some (fnV (wFn deg), G) := by rw [load_at h]; rfl
theorem kern_p (h : G[id]? = some (.cells true e (kern deg))) : loadR (.pointer (some ⟨id, 3, none⟩)) G = some (fnV (pFn deg), G) := by rw [load_at h]; rfl
theorem kern_rden (h : G[id]? = some (.cells true e (kern deg))) : loadR (.pointer (some ⟨id, 4, none⟩)) G = some (.int .i64 (rdenL deg), G) := by rw [load_at h]; rfl
theorem kern_all (h : G[id]? = some (.cells true e (kern deg))) : loadNR 5 (.pointer (some ⟨id, 0, none⟩)) G = some (.agg ⟨kern deg⟩, G) := loadN_at h (by show 0 + 5 ≤ 5; omega)
end

section
variable {H : AHeap}
theorem degreeErr_c (n : Int) : ACall Go.Proofs.Tryd.prog 95 [.int .i64 n] H fun v H' => v = .int .i64 (degErrL n) ∧ H' = H := by
  (refine a95 ?_; simp only [n95, List.replicate, List.length_cons, List.length_nil, List.cons_append, List.nil_append])
  by_cases h1 : n = 1
  · ((repeat (first | refine q1 ?_ | refine q2 ?_ | refine q3 ?_ | refine q4 ?_ | refine q5 ?_ | refine q6 ?_ | refine q7 ?_ | refine q8 ?_ | refine q9 ?_ | refine qa ?_ | refine qb ?_ | refine qc ?_ | refine qd ?_ | refine qe (by decide) ?_ | refine qf ?_ | refine qg ?_ | ((first | apply aops_all | apply adraw_all); (simp (disch := first | exact List.all_nil | omega | (simp only [go_sem]; done) | (simp only [ln, List.length_map]; omega) | (repeat' first | assumption | exact Ext.refl _ | refine Ext.app ?_ _)) only [go_sem, dec_t h1]; rfl)))); (try ((first | apply aops_until | apply adraw_until); (simp (disch := first | exact List.all_nil | omega | (simp only [go_sem]; done) | (simp only [ln, List.length_map]; omega) | (repeat' first | assumption | exact Ext.refl _ | refine Ext.app ?_ _)) only [go_sem, dec_t h1]; rfl))))
    refine aops_call_to (unless_c _ _) ?_
    ((repeat (first | refine q1 ?_ | refine q2 ?_ | refine q3 ?_ | refine q4 ?_ | refine q5 ?_ | refine q6 ?_ | refine q7 ?_ | refine q8 ?_ | refine q9 ?_ | refine qa ?_ | refine qb ?_ | refine qc ?_ | refine qd ?_ | refine qe (by decide) ?_ | refine qf ?_ | refine qg ?_ | ((first | apply aops_all | apply adraw_all); (simp (disch := first | exact List.all_nil | omega | (simp only [go_sem]; done) | (simp only [ln, List.length_map]; omega) | (repeat' first | assumption | exact Ext.refl _ | refine Ext.app ?_ _)) only [go_sem]; rfl)))); (try ((first | apply aops_until | apply adraw_until); (simp (disch := first | exact List.all_nil | omega | (simp only [go_sem]; done) | (simp only [ln, List.length_map]; omega) | (repeat' first | assumption | exact Ext.refl _ | refine Ext.app ?_ _)) only [go_sem]; rfl))))
    exact fin_1 ⟨by unfold degErrL; rw [if_pos (.inl h1)]; rfl, rfl⟩
  · ((repeat (first | refine q1 ?_ | refine q2 ?_ | refine q3 ?_ | refine q4 ?_ | refine q5 ?_ | refine q6 ?_ | refine q7 ?_ | refine q8 ?_ | refine q9 ?_ | refine qa ?_ | refine qb ?_ | refine qc ?_ | refine qd ?_ | refine qe (by decide) ?_ | refine qf ?_ | refine qg ?_ | ((first | apply aops_all | apply adraw_all); (simp (disch := first | exact List.all_nil | omega | (simp only [go_sem]; done) | (simp only [ln, List.length_map]; omega) | (repeat' first | assumption | exact Ext.refl _ | refine Ext.app ?_ _)) only [go_sem, dec_f h1]; rfl)))); (try ((first | apply aops_until | apply adraw_until); (simp (disch := first | exact List.all_nil | omega | (simp only [go_sem]; done) | (simp only [ln, List.length_map]; omega) | (repeat' first | assumption | exact Ext.refl _ | refine Ext.app ?_ _)) only [go_sem, dec_f h1]; rfl))))
    refine aops_call_to (unless_c _ _) ?_
    ((repeat (first | refine q1 ?_ | refine q2 ?_ | refine q3 ?_ | refine q4 ?_ | refine q5 ?_ | refine q6 ?_ | refine q7 ?_ | refine q8 ?_ | refine q9 ?_ | refine qa ?_ | refine qb ?_ | refine qc ?_ | refine qd ?_ | refine qe (by decide) ?_ | refine qf ?_ | refine qg ?_ | ((first | apply aops_all | apply adraw_all); (simp (disch := first | exact List.all_nil | omega | (simp only [go_sem]; done) | (simp only [ln, List.length_map]; omega) | (repeat' first | assumption | exact Ext.refl _ | refine Ext.app ?_ _)) only [go_sem]; rfl)))); (try ((first | apply aops_until | apply adraw_until); (simp (disch := first | exact List.all_nil | omega | (simp only [go_sem]; done) | (simp only [ln, List.length_map]; omega) | (repeat' first | assumption | exact Ext.refl _ | refine Ext.app ?_ _)) only [go_sem]; rfl))))
    exact fin_1 ⟨by unfold degErrL; by_cases h3 : n = 3 <;> simp [h1, h3], rfl⟩
theorem fractionErr_c (n : Int) : ACall Go.Proofs.Tryd.prog 99 [.int .i64 n] H fun v H' => v = .int .i64 (fracErrL n) ∧ H' = H := by
  (refine a99 ?_; simp only [n99, List.replicate, List.length_cons, List.length_nil, List.cons_append, List.nil_append])
  ((repeat (first | refine q1 ?_ | refine q2 ?_ | refine q3 ?_ | refine q4 ?_ | refine q5 ?_ | refine q6 ?_ | refine q7 ?_ | refine q8 ?_ | refine q9 ?_ | refine qa ?_ | refine qb ?_ | refine qc ?_ | refine qd ?_ | refine qe (by decide) ?_ | refine qf ?_ | refine qg ?_ | ((first | apply aops_all | apply adraw_all); (simp (disch := first | exact List.all_nil | omega | (simp only [go_sem]; done) | (simp only [ln, List.length_map]; omega) | (repeat' first | assumption | exact Ext.refl _ | refine Ext.app ?_ _)) only [go_sem]; rfl)))); (try ((first | apply aops_until | apply adraw_until); (simp (disch := first | exact List.all_nil | omega | (simp only [go_sem]; done) | (simp only [ln, List.length_map]; omega) | (repeat' first | assumption | exact Ext.refl _ | refine Ext.app ?_ _)) only [go_sem]; rfl))))
  refine aops_call_to (within_c _ _ _) ?_
  ((repeat (first | refine q1 ?_ | refine q2 ?_ | refine q3 ?_ | refine q4 ?_ | refine q5 ?_ | refine q6 ?_ | refine q7 ?_ | refine q8 ?_ | refine q9 ?_ | refine qa ?_ | refine qb ?_ | refine qc ?_ | refine qd ?_ | refine qe (by decide) ?_ | refine qf ?_ | refine qg ?_ | ((first | apply aops_all | apply adraw_all); (simp (disch := first | exact List.all_nil | omega | (simp only [go_sem]; done) | (simp only [ln, List.length_map]; omega) | (repeat' first | assumption | exact Ext.refl _ | refine Ext.app ?_ _)) only [go_sem]; rfl)))); (try ((first | apply aops_until | apply adraw_until); (simp (disch := first | exact List.all_nil | omega | (simp only [go_sem]; done) | (simp only [ln, List.length_map]; omega) | (repeat' first | assumption | exact Ext.refl _ | refine Ext.app ?_ _)) only [go_sem]; rfl))))
  refine aops_call_to (unless_c _ _) ?_
  ((repeat (first | refine q1 ?_ | refine q2 ?_ | refine q3 ?_ | refine q4 ?_ | refine q5 ?_ | refine q6 ?_ | refine q7 ?_ | refine q8 ?_ | refine q9 ?_ | refine qa ?_ | refine qb ?_ | refine qc ?_ | refine qd ?_ | refine qe (by decide) ?_ | refine qf ?_ | refine qg ?_ | ((first | apply aops_all | apply adraw_all); (simp (disch := first | exact List.all_nil | omega | (simp only [go_sem]; done) | (simp only [ln, List.length_map]; omega) | (repeat' first | assumption | exact Ext.refl _ | refine Ext.app ?_ _)) only [go_sem]; rfl)))); (try ((first | apply aops_until | apply adraw_until); (simp (disch := first | exact List.all_nil | omega | (simp only [go_sem]; done) | (simp only [ln, List.length_map]; omega) | (repeat' first | assumption | exact Ext.refl _ | refine Ext.app ?_ _)) only [go_sem]; rfl))))
  exact fin_1 ⟨by unfold fracErrL; by_cases h : 0 ≤ n ∧ n ≤ 63 <;> simp [h], rfl⟩
theorem refDegreeErr_c (n : Int) : ACall Go.Proofs.Tryd.prog 29 [.int .i64 n] H fun v H' => v = .int .i64 (degErrL n) ∧ H' = H := by
  (refine a29 ?_; simp only [n29, List.replicate, List.length_cons, List.length_nil, List.cons_append, List.nil_append])
  by_cases h1 : n = 1
  · ((repeat (first | refine q1 ?_ | refine q2 ?_ | refine q3 ?_ | refine q4 ?_ | refine q5 ?_ | refine q6 ?_ | refine q7 ?_ | refine q8 ?_ | refine q9 ?_ | refine qa ?_ | refine qb ?_ | refine qc ?_ | refine qd ?_ | refine qe (by decide) ?_ | refine qf ?_ | refine qg ?_ | ((first | apply aops_all | apply adraw_all); (simp (disch := first | exact List.all_nil | omega | (simp only [go_sem]; done) | (simp only [ln, List.length_map]; omega) | (repeat' first | assumption | exact Ext.refl _ | refine Ext.app ?_ _)) only [go_sem, dec_f (show ¬ n ≠ 1 by omega)]; rfl)))); (try ((first | apply aops_until | apply adraw_until); (simp (disch := first | exact List.all_nil | omega | (simp only [go_sem]; done) | (simp only [ln, List.length_map]; omega) | (repeat' first | assumption | exact Ext.refl _ | refine Ext.app ?_ _)) only [go_sem, dec_f (show ¬ n ≠ 1 by omega)]; rfl))))
    refine cond_f rfl ?_
    ((repeat (first | refine q1 ?_ | refine q2 ?_ | refine q3 ?_ | refine q4 ?_ | refine q5 ?_ | refine q6 ?_ | refine q7 ?_ | refine q8 ?_ | refine q9 ?_ | refine qa ?_ | refine qb ?_ | refine qc ?_ | refine qd ?_ | refine qe (by decide) ?_ | refine qf ?_ | refine qg ?_ | ((first | apply aops_all | apply adraw_all); (simp (disch := first | exact List.all_nil | omega | (simp only [go_sem]; done) | (simp only [ln, List.length_map]; omega) | (repeat' first | assumption | exact Ext.refl _ | refine Ext.app ?_ _)) only [go_sem]; rfl)))); (try ((first | apply aops_until | apply adraw_until); (simp (disch := first | exact List.all_nil | omega | (simp only [go_sem]; done) | (simp only [ln, List.length_map]; omega) | (repeat' first | assumption | exact Ext.refl _ | refine Ext.app ?_ _)) only [go_sem]; rfl))))
    exact fin_1 ⟨by unfold degErrL; rw [if_pos (.inl h1)]; rfl, rfl⟩
  · by_cases h3 : n = 3
    · ((repeat (first | refine q1 ?_ | refine q2 ?_ | refine q3 ?_ | refine q4 ?_ | refine q5 ?_ | refine q6 ?_ | refine q7 ?_ | refine q8 ?_ | refine q9 ?_ | refine qa ?_ | refine qb ?_ | refine qc ?_ | refine qd ?_ | refine qe (by decide) ?_ | refine qf ?_ | refine qg ?_ | ((first | apply aops_all | apply adraw_all); (simp (disch := first | exact List.all_nil | omega | (simp only [go_sem]; done) | (simp only [ln, List.length_map]; omega) | (repeat' first | assumption | exact Ext.refl _ | refine Ext.app ?_ _)) only [go_sem, dec_t h1, dec_f (show ¬ n ≠ 3 by omega)]; rfl)))); (try ((first | apply aops_until | apply adraw_until); (simp (disch := first | exact List.all_nil | omega | (simp only [go_sem]; done) | (simp only [ln, List.length_map]; omega) | (repeat' first | assumption | exact Ext.refl _ | refine Ext.app ?_ _)) only [go_sem, dec_t h1, dec_f (show ¬ n ≠ 3 by omega)]; rfl))))
      refine cond_f rfl ?_
      ((repeat (first | refine q1 ?_ | refine q2 ?_ | refine q3 ?_ | refine q4 ?_ | refine q5 ?_ | refine q6 ?_ | refine q7 ?_ | refine q8 ?_ | refine q9 ?_ | refine qa ?_ | refine qb ?_ | refine qc ?_ | refine qd ?_ | refine qe (by decide) ?_ | refine qf ?_ | refine qg ?_ | ((first | apply aops_all | apply adraw_all); (simp (disch := first | exact List.all_nil | omega | (simp only [go_sem]; done) | (simp only [ln, List.length_map]; omega) | (repeat' first | assumption | exact Ext.refl _ | refine Ext.app ?_ _)) only [go_sem]; rfl)))); (try ((first | apply aops_until | apply adraw_until); (simp (disch := first | exact List.all_nil | omega | (simp only [go_sem]; done) | (simp only [ln, List.length_map]; omega) | (repeat' first | assumption | exact Ext.refl _ | refine Ext.app ?_ _)) only [go_sem]; rfl))))
      exact fin_1 ⟨by unfold degErrL; rw [if_pos (.inr h3)]; rfl, rfl⟩
    · ((repeat (first | refine q1 ?_ | refine q2 ?_ | refine q3 ?_ | refine q4 ?_ | refine q5 ?_ | refine q6 ?_ | refine q7 ?_ | refine q8 ?_ | refine q9 ?_ | refine qa ?_ | refine qb ?_ | refine qc ?_ | refine qd ?_ | refine qe (by decide) ?_ | refine qf ?_ | refine qg ?_ | ((first | apply aops_all | apply adraw_all); (simp (disch := first | exact List.all_nil | omega | (simp only [go_sem]; done) | (simp only [ln, List.length_map]; omega) | (repeat' first | assumption | exact Ext.refl _ | refine Ext.app ?_ _)) only [go_sem, dec_t h1, dec_t h3]; rfl)))); (try ((first | apply aops_until | apply adraw_until); (simp (disch := first | exact List.all_nil | omega | (simp only [go_sem]; done) | (simp only [ln, List.length_map]; omega) | (repeat' first | assumption | exact Ext.refl _ | refine Ext.app ?_ _)) only [go_sem, dec_t h1, dec_t h3]; rfl))))
      refine cond_t rfl ?_
      ((repeat (first | refine q1 ?_ | refine q2 ?_ | refine q3 ?_ | refine q4 ?_ | refine q5 ?_ | refine q6 ?_ | refine q7 ?_ | refine q8 ?_ | refine q9 ?_ | refine qa ?_ | refine qb ?_ | refine qc ?_ | refine qd ?_ | refine qe (by decide) ?_ | refine qf ?_ | refine qg ?_ | ((first | apply aops_all | apply adraw_all); (simp (disch := first | exact List.all_nil | omega | (simp only [go_sem]; done) | (simp only [ln, List.length_map]; omega) | (repeat' first | assumption | exact Ext.refl _ | refine Ext.app ?_ _)) only [go_sem]; rfl)))); (try ((first | apply aops_until | apply adraw_until); (simp (disch := first | exact List.all_nil | omega | (simp only [go_sem]; done) | (simp only [ln, List.length_map]; omega) | (repeat' first | assumption | exact Ext.refl _ | refine Ext.app ?_ _)) only [go_sem]; rfl))))
      exact fin_1 ⟨by unfold degErrL; rw [if_neg (by omega)]; rfl, rfl⟩
/-- The weights of a kernel. -/
theorem weights_c {deg f : Int} (hd : deg = 1 ∨ deg = 3) (h : 0 ≤ f ∧ f ≤ 63) : ACall Go.Proofs.Tryd.prog (wFn deg) [.int .i64 f] H fun v H' =>
    v = .slice (some ⟨H.length, 0, none⟩) (weightsL deg f).length (weightsL deg f).length ∧ H' = H ++ [.cells true 1 ((weightsL deg f).map (.int .i64))] := by
  have m1 := mul_abs (x := 0 - f) (y := f - 64) (a := 63) (b := 64) ⟨by omega, by omega⟩ ⟨by omega, by omega⟩
  have m2 := mul_abs (x := (0 - f) * (f - 64)) (y := f - 128) (a := 4032) (b := 128) ⟨by omega, by omega⟩ ⟨by omega, by omega⟩
  have m3 := mul_abs (x := 3 * (f + 64)) (y := f - 64) (a := 381) (b := 64) ⟨by omega, by omega⟩ ⟨by omega, by omega⟩
  have m4 := mul_abs (x := 3 * (f + 64) * (f - 64)) (y := f - 128) (a := 24384) (b := 128) ⟨by omega, by omega⟩ ⟨by omega, by omega⟩
  have m5 := mul_abs (x := -3 * (f + 64)) (y := f) (a := 381) (b := 63) ⟨by omega, by omega⟩ ⟨by omega, by omega⟩
  have m6 := mul_abs (x := -3 * (f + 64) * f) (y := f - 128) (a := 24003) (b := 128) ⟨by omega, by omega⟩ ⟨by omega, by omega⟩
  have m7 := mul_abs (x := f + 64) (y := f) (a := 127) (b := 63) ⟨by omega, by omega⟩ ⟨by omega, by omega⟩
  have m8 := mul_abs (x := (f + 64) * f) (y := f - 64) (a := 8001) (b := 64) ⟨by omega, by omega⟩ ⟨by omega, by omega⟩
  rcases hd with rfl | rfl
  · show ACall _ 173 _ _ _
    (refine a173 ?_; simp only [n173, List.replicate, List.length_cons, List.length_nil, List.cons_append, List.nil_append])
    ((repeat (first | refine q1 ?_ | refine q2 ?_ | refine q3 ?_ | refine q4 ?_ | refine q5 ?_ | refine q6 ?_ | refine q7 ?_ | refine q8 ?_ | refine q9 ?_ | refine qa ?_ | refine qb ?_ | refine qc ?_ | refine qd ?_ | refine qe (by decide) ?_ | refine qf ?_ | refine qg ?_ | ((first | apply aops_all | apply adraw_all); (simp (disch := first | exact List.all_nil | omega | (simp only [go_sem]; done) | (simp only [ln, List.length_map]; omega) | (repeat' first | assumption | exact Ext.refl _ | refine Ext.app ?_ _)) only [go_sem]; rfl)))); (try ((first | apply aops_until | apply adraw_until); (simp (disch := first | exact List.all_nil | omega | (simp only [go_sem]; done) | (simp only [ln, List.length_map]; omega) | (repeat' first | assumption | exact Ext.refl _ | refine Ext.app ?_ _)) only [go_sem]; rfl))))
    exact fin_1 ⟨rfl, rfl⟩
  · show ACall _ 175 _ _ _
    (refine a175 ?_; simp only [n175, List.replicate, List.length_cons, List.length_nil, List.cons_append, List.nil_append])
    ((repeat (first | refine q1 ?_ | refine q2 ?_ | refine q3 ?_ | refine q4 ?_ | refine q5 ?_ | refine q6 ?_ | refine q7 ?_ | refine q8 ?_ | refine q9 ?_ | refine qa ?_ | refine qb ?_ | refine qc ?_ | refine qd ?_ | refine qe (by decide) ?_ | refine qf ?_ | refine qg ?_ | ((first | apply aops_all | apply adraw_all); (simp (disch := first | exact List.all_nil | omega | (simp only [go_sem]; done) | (simp only [ln, List.length_map]; omega) | (repeat' first | assumption | exact Ext.refl _ | refine Ext.app ?_ _)) only [go_sem]; rfl)))); (try ((first | apply aops_until | apply adraw_until); (simp (disch := first | exact List.all_nil | omega | (simp only [go_sem]; done) | (simp only [ln, List.length_map]; omega) | (repeat' first | assumption | exact Ext.refl _ | refine Ext.app ?_ _)) only [go_sem]; rfl))))
    exact fin_1 ⟨rfl, rfl⟩
/-- The product of a kernel. -/
theorem product_c {deg f : Int} (hd : deg = 1 ∨ deg = 3) (h : 0 ≤ f ∧ f ≤ 63) : ACall Go.Proofs.Tryd.prog (pFn deg) [.int .i64 f] H fun v H' => v = .int .i64 (prodL deg f) ∧ H' = H := by
  have m1 := mul_abs (x := f) (y := f - 64) (a := 63) (b := 64) ⟨by omega, by omega⟩ ⟨by omega, by omega⟩
  have m7 := mul_abs (x := f + 64) (y := f) (a := 127) (b := 63) ⟨by omega, by omega⟩ ⟨by omega, by omega⟩
  have m8 := mul_abs (x := (f + 64) * f) (y := f - 64) (a := 8001) (b := 64) ⟨by omega, by omega⟩ ⟨by omega, by omega⟩
  have m9 := mul_abs (x := (f + 64) * f * (f - 64)) (y := f - 128) (a := 512064) (b := 128) ⟨by omega, by omega⟩ ⟨by omega, by omega⟩
  rcases hd with rfl | rfl
  · show ACall _ 174 _ _ _
    (refine a174 ?_; simp only [n174, List.replicate, List.length_cons, List.length_nil, List.cons_append, List.nil_append])
    ((repeat (first | refine q1 ?_ | refine q2 ?_ | refine q3 ?_ | refine q4 ?_ | refine q5 ?_ | refine q6 ?_ | refine q7 ?_ | refine q8 ?_ | refine q9 ?_ | refine qa ?_ | refine qb ?_ | refine qc ?_ | refine qd ?_ | refine qe (by decide) ?_ | refine qf ?_ | refine qg ?_ | ((first | apply aops_all | apply adraw_all); (simp (disch := first | exact List.all_nil | omega | (simp only [go_sem]; done) | (simp only [ln, List.length_map]; omega) | (repeat' first | assumption | exact Ext.refl _ | refine Ext.app ?_ _)) only [go_sem]; rfl)))); (try ((first | apply aops_until | apply adraw_until); (simp (disch := first | exact List.all_nil | omega | (simp only [go_sem]; done) | (simp only [ln, List.length_map]; omega) | (repeat' first | assumption | exact Ext.refl _ | refine Ext.app ?_ _)) only [go_sem]; rfl))))
    exact fin_1 ⟨rfl, rfl⟩
  · show ACall _ 176 _ _ _
    (refine a176 ?_; simp only [n176, List.replicate, List.length_cons, List.length_nil, List.cons_append, List.nil_append])
    ((repeat (first | refine q1 ?_ | refine q2 ?_ | refine q3 ?_ | refine q4 ?_ | refine q5 ?_ | refine q6 ?_ | refine q7 ?_ | refine q8 ?_ | refine q9 ?_ | refine qa ?_ | refine qb ?_ | refine qc ?_ | refine qd ?_ | refine qe (by decide) ?_ | refine qf ?_ | refine qg ?_ | ((first | apply aops_all | apply adraw_all); (simp (disch := first | exact List.all_nil | omega | (simp only [go_sem]; done) | (simp only [ln, List.length_map]; omega) | (repeat' first | assumption | exact Ext.refl _ | refine Ext.app ?_ _)) only [go_sem]; rfl)))); (try ((first | apply aops_until | apply adraw_until); (simp (disch := first | exact List.all_nil | omega | (simp only [go_sem]; done) | (simp only [ln, List.length_map]; omega) | (repeat' first | assumption | exact Ext.refl _ | refine Ext.app ?_ _)) only [go_sem]; rfl))))
    exact fin_1 ⟨rfl, rfl⟩
theorem value_c {deg q : Int} {x : List Int} {v : Value} (hd : deg = 1 ∨ deg = 3) (hX : Ints H x v) (hxl : x.length ≤ 400) (hxb : ∀ j : Nat, -32767 ≤ x.getD j 0 ∧ x.getD j 0 ≤ 32767) (hq : 0 ≤ q ∧ q ≤ 64 * ((x.length : Int) - 1)) :
    ACall Go.Proofs.Tryd.prog 92 [.agg ⟨kern deg⟩, v, .int .i64 q] H fun w H' => w = .int .i64 (valueL deg x q) ∧ H' = H := by
  refine ACall.drop (.int _ _) ?_
  have hx0 : 0 < x.length := by omega
  have hm : 0 ≤ q % 64 ∧ q % 64 ≤ 63 := by omega
  have e1 : q.tmod 64 = q % 64 := Int.tmod_eq_emod_of_nonneg hq.1
  have e2 : q.tdiv 64 = q / 64 := Int.tdiv_eq_ediv_of_nonneg hq.1
  have hfr : -1 ≤ fromL deg ∧ fromL deg ≤ 0 := by unfold fromL; split <;> omega
  have wb := weights_bound hd hm
  have wl := weights_len_le deg (q % 64)
  have hfin : valTo (weightsL deg (q % 64)) x (q / 64 + fromL deg) (weightsL deg (q % 64)).length = valueL deg x q := rfl
  (refine a92 ?_; simp only [n92, List.replicate, List.length_cons, List.length_nil, List.cons_append, List.nil_append])
  ((repeat (first | refine q1 ?_ | refine q2 ?_ | refine q3 ?_ | refine q4 ?_ | refine q5 ?_ | refine q6 ?_ | refine q8 ?_ | refine q9 ?_ | refine qa ?_ | refine qb ?_ | refine qc ?_ | refine qd ?_ | refine qe (by decide) ?_ | refine qf ?_ | refine qg ?_ | (apply aops_all; (simp (disch := first | exact List.all_nil | omega | (simp only [go_sem]; done) | (simp only [ln, List.length_map]; omega) | (repeat' first | assumption | exact Ext.refl _ | refine Ext.app ?_ _)) only [go_sem, box_kern]; rfl)))); (try (apply aops_until; (simp (disch := first | exact List.all_nil | omega | (simp only [go_sem]; done) | (simp only [ln, List.length_map]; omega) | (repeat' first | assumption | exact Ext.refl _ | refine Ext.app ?_ _)) only [go_sem, box_kern]; rfl))))
  have g0 : (H ++ [AObj.cells true 0 (kern deg)])[H.length]? = some (.cells true 0 (kern deg)) := at_new
  have xG : Ext H (H ++ [AObj.cells true 0 (kern deg)]) := (Ext.refl H).app _
  generalize (H ++ [AObj.cells true 0 (kern deg)] : AHeap) = G at g0 xG
  ((repeat (first | refine q1 ?_ | refine q2 ?_ | refine q3 ?_ | refine q4 ?_ | refine q5 ?_ | refine q6 ?_ | refine q7 ?_ | refine q8 ?_ | refine q9 ?_ | refine qa ?_ | refine qb ?_ | refine qc ?_ | refine qd ?_ | refine qe (by decide) ?_ | refine qf ?_ | refine qg ?_ | ((first | apply aops_all | apply adraw_all); (simp (disch := first | exact List.all_nil | omega | (simp only [go_sem]; done) | (simp only [ln, List.length_map]; omega) | (repeat' first | assumption | exact Ext.refl _ | refine Ext.app ?_ _)) only [go_sem, kern_w g0, a_rem (show (64 : Int) ≠ 0 by decide), e1]; rfl)))); (try ((first | apply aops_until | apply adraw_until); (simp (disch := first | exact List.all_nil | omega | (simp only [go_sem]; done) | (simp only [ln, List.length_map]; omega) | (repeat' first | assumption | exact Ext.refl _ | refine Ext.app ?_ _)) only [go_sem, kern_w g0, a_rem (show (64 : Int) ≠ 0 by decide), e1]; rfl))))
  refine aops_call ((weights_c (H := G) hd hm).mono fun u G1 ⟨h1, h2⟩ => ?_)
  have hW : Ints G1 (weightsL deg (q % 64)) u := by rw [h1, h2]; exact Ints.last _
  have x1 : Ext G G1 := ⟨_, h2⟩
  clear h1 h2
  generalize weightsL deg (q % 64) = ws at hW wb wl hfin
  have hX1 := hX.ext (xG.trans x1)
  have g1 := x1.cell g0
  ((repeat (first | refine q1 ?_ | refine q2 ?_ | refine q3 ?_ | refine q4 ?_ | refine q5 ?_ | refine q6 ?_ | refine q7 ?_ | refine q8 ?_ | refine q9 ?_ | refine qa ?_ | refine qb ?_ | refine qc ?_ | refine qd ?_ | refine qe (by decide) ?_ | refine qf ?_ | refine qg ?_ | ((first | apply aops_all | apply adraw_all); (simp (disch := first | exact List.all_nil | omega | (simp only [go_sem]; done) | (simp only [ln, List.length_map]; omega) | (repeat' first | assumption | exact Ext.refl _ | refine Ext.app ?_ _)) only [go_sem, hW.len, hW.idx, hW.load]; rfl)))); (try ((first | apply aops_until | apply adraw_until); (simp (disch := first | exact List.all_nil | omega | (simp only [go_sem]; done) | (simp only [ln, List.length_map]; omega) | (repeat' first | assumption | exact Ext.refl _ | refine Ext.app ?_ _)) only [go_sem, hW.len, hW.idx, hW.load]; rfl))))
  refine awp_loop_n [false, true, true, true, false, false, false, true, false, false, false, false, false, false, false, true, true, true, false, false, false, false, false, false, false, false, false, false, false, false, false, false, false, false, false, false, false, false, false, false, false, false, false, false] ws.length (fun i e H' => H' = G1 ∧ e = [junk, v, .int .i64 q, .pointer (some ⟨H.length, 0, none⟩), junk, junk, junk, .int .i64 (valTo ws x (q / 64 + fromL deg) i), junk, junk, junk, junk, junk, junk, junk, u, .int .i64 (ws.length : Nat), .int .i64 i, junk, junk, junk, junk, junk, junk, junk, junk, junk, junk, junk, junk, junk, junk, junk, junk, junk, junk, junk, junk, junk, junk, junk, junk, junk, junk]) ?_ ?_
  · exact ⟨rfl, by simp [forget, valTo]⟩
  rintro i e H' hi ⟨rfl, rfl⟩
  have b1 := valTo_bound (a := 3121152) (b := 32767) (at0 := q / 64 + fromL deg) wb hxb i
  ((repeat (first | refine q1 ?_ | refine q2 ?_ | refine q3 ?_ | refine q4 ?_ | refine q5 ?_ | refine q6 ?_ | refine q7 ?_ | refine q8 ?_ | refine q9 ?_ | refine qa ?_ | refine qb ?_ | refine qc ?_ | refine qd ?_ | refine qe (by decide) ?_ | refine qf ?_ | refine qg ?_ | ((first | apply aops_all | apply adraw_all); (simp (disch := first | exact List.all_nil | omega | (simp only [go_sem]; done) | (simp only [ln, List.length_map]; omega) | (repeat' first | assumption | exact Ext.refl _ | refine Ext.app ?_ _)) only [go_sem]; rfl)))); (try ((first | apply aops_until | apply adraw_until); (simp (disch := first | exact List.all_nil | omega | (simp only [go_sem]; done) | (simp only [ln, List.length_map]; omega) | (repeat' first | assumption | exact Ext.refl _ | refine Ext.app ?_ _)) only [go_sem]; rfl))))
  refine cond_p rfl (fun hlt => ?_) (fun hge => ?_)
  · have hi' : i < ws.length := by omega
    have hcl := clampI_lt (j := q / 64 + fromL deg + i) hx0
    have b2 := mul_abs (x := ws.getD i 0) (y := x.getD (clampI x.length (q / 64 + fromL deg + i)) 0) (a := 3121152) (b := 32767) (wb i) (hxb _)
    have ec : (min (max (q / 64 + fromL deg + i) 0) ((x.length : Int) - 1)).toNat = clampI x.length (q / 64 + fromL deg + i) := rfl
    have ecb : 0 ≤ min (max (q / 64 + fromL deg + i) 0) ((x.length : Int) - 1) ∧ min (max (q / 64 + fromL deg + i) 0) ((x.length : Int) - 1) < x.length := by omega
    ((repeat (first | refine q1 ?_ | refine q2 ?_ | refine q3 ?_ | refine q4 ?_ | refine q5 ?_ | refine q6 ?_ | refine q7 ?_ | refine q8 ?_ | refine q9 ?_ | refine qa ?_ | refine qb ?_ | refine qc ?_ | refine qd ?_ | refine qe (by decide) ?_ | refine qf ?_ | refine qg ?_ | ((first | apply aops_all | apply adraw_all); (simp (disch := first | exact List.all_nil | omega | (simp only [go_sem]; done) | (simp only [ln, List.length_map]; omega) | (repeat' first | assumption | exact Ext.refl _ | refine Ext.app ?_ _)) only [go_sem, hW.len, hW.idx, hW.load, hX1.len, hX1.idx, hX1.load, kern_from g1, e2, ec]; rfl)))); (try ((first | apply aops_until | apply adraw_until); (simp (disch := first | exact List.all_nil | omega | (simp only [go_sem]; done) | (simp only [ln, List.length_map]; omega) | (repeat' first | assumption | exact Ext.refl _ | refine Ext.app ?_ _)) only [go_sem, hW.len, hW.idx, hW.load, hX1.len, hX1.idx, hX1.load, kern_from g1, e2, ec]; rfl))))
    exact ⟨by omega, rfl, by simp [forget, valTo]⟩
  · obtain rfl : i = ws.length := by omega
    rw [hfin]
    ((repeat (first | refine q1 ?_ | refine q2 ?_ | refine q3 ?_ | refine q4 ?_ | refine q5 ?_ | refine q6 ?_ | refine q7 ?_ | refine q8 ?_ | refine q9 ?_ | refine qa ?_ | refine qb ?_ | refine qc ?_ | refine qd ?_ | refine qe (by decide) ?_ | refine qf ?_ | refine qg ?_ | ((first | apply aops_all | apply adraw_all); (simp (disch := first | exact List.all_nil | omega | (simp only [go_sem]; done) | (simp only [ln, List.length_map]; omega) | (repeat' first | assumption | exact Ext.refl _ | refine Ext.app ?_ _)) only [go_sem]; rfl)))); (try ((first | apply aops_until | apply adraw_until); (simp (disch := first | exact List.all_nil | omega | (simp only [go_sem]; done) | (simp only [ln, List.length_map]; omega) | (repeat' first | assumption | exact Ext.refl _ | refine Ext.app ?_ _)) only [go_sem]; rfl))))
    exact fin_1 ⟨rfl, xG.trans x1⟩
end
end Go.Lq


namespace Go.Lq
open Go
open Go.Proofs

def wAtErrL (deg f : Int) : Int := firstErr [degErrL deg, fracErrL f]
theorem wAtErr_d {deg f : Int} (h : degErrL deg ≠ 0) : wAtErrL deg f = degErrL deg := by unfold wAtErrL firstErr; simp [h]
theorem wAtErr_f {deg f : Int} (h : degErrL deg = 0) : wAtErrL deg f = fracErrL f := by
  unfold wAtErrL firstErr
  by_cases h2 : fracErrL f = 0 <;> simp [h, h2]
theorem wAtErr_ok {deg f : Int} (h : wAtErrL deg f = 0) : (deg = 1 ∨ deg = 3) ∧ 0 ≤ f ∧ f ≤ 63 := by
  by_cases h1 : degErrL deg = 0
  · rw [wAtErr_f h1] at h
    exact ⟨degErr_ok h1, fracErr_ok h⟩
  · rw [wAtErr_d h1] at h
    exact absurd h h1
def posErrQ (x : List Int) (q : Int) : Int := if decide (0 ≤ q ∧ q ≤ 64 * ((x.length : Int) - 1)) = true then 0 else 2
def valErrL (deg : Int) (x : List Int) (q : Int) : Int := firstErr [degErrL deg, signalErrL x, posErrQ x q]
def valNumL (deg : Int) (x : List Int) (q : Int) : Int := if valErrL deg x q = 0 then valueL deg x q else 0
def valDenL (deg : Int) (x : List Int) (q : Int) : Int := if valErrL deg x q = 0 then denL deg else 0
theorem valErr_ok {deg : Int} {x : List Int} {q : Int} (h : valErrL deg x q = 0) : (deg = 1 ∨ deg = 3) ∧ signalErrL x = 0 ∧ 0 ≤ q ∧ q ≤ 64 * ((x.length : Int) - 1) := by
  unfold valErrL at h
  by_cases h1 : degErrL deg = 0
  · by_cases h2 : signalErrL x = 0
    · refine ⟨degErr_ok h1, h2, ?_⟩
      by_cases h3 : 0 ≤ q ∧ q ≤ 64 * ((x.length : Int) - 1)
      · exact h3
      · simp [firstErr, h1, h2, posErrQ, h3] at h
    · simp [firstErr, h1, h2] at h
  · simp [firstErr, h1] at h
theorem closed_iii (a b c : Int) : Closed (.tuple #[.int .i64 a, .int .i64 b, .int .i64 c]) := .tuple _ (closed_list (l := [.int .i64 a, .int .i64 b, .int .i64 c]) fun v hv => by
  simp only [List.mem_cons, List.not_mem_nil, or_false] at hv
  rcases hv with rfl | rfl | rfl <;> exact .int _ _)

section
variable {H : AHeap}
theorem valueAt_c {deg q : Int} {x : List Int} {v : Value} (hx : Ext H0 H) (hX : Ints H x v) (hxl : x.length ≤ 1000000000) : ACall Go.Proofs.Tryd.prog 37 [.int .i64 deg, v, .int .i64 q] H fun v H' =>
    v = .tuple #[.int .i64 (valNumL deg x q), .int .i64 (valDenL deg x q), .int .i64 (valErrL deg x q)] ∧ H' = H := by
  refine ACall.drop (closed_iii _ _ _) ?_
  (refine a37 ?_; simp only [n37, List.replicate, List.length_cons, List.length_nil, List.cons_append, List.nil_append])
  ((repeat (first | refine q1 ?_ | refine q2 ?_ | refine q3 ?_ | refine q4 ?_ | refine q5 ?_ | refine q6 ?_ | refine q7 ?_ | refine q8 ?_ | refine q9 ?_ | refine qa ?_ | refine qb ?_ | refine qc ?_ | refine qd ?_ | refine qe (by decide) ?_ | refine qf ?_ | refine qg ?_ | ((first | apply aops_all | apply adraw_all); (simp (disch := first | exact List.all_nil | omega | (simp only [go_sem]; done) | (simp only [ln, List.length_map]; omega) | (repeat' first | assumption | exact Ext.refl _ | refine Ext.app ?_ _)) only [go_sem]; rfl)))); (try ((first | apply aops_until | apply adraw_until); (simp (disch := first | exact List.all_nil | omega | (simp only [go_sem]; done) | (simp only [ln, List.length_map]; omega) | (repeat' first | assumption | exact Ext.refl _ | refine Ext.app ?_ _)) only [go_sem]; rfl))))
  refine aops_call_to (degreeErr_c _) ?_
  ((repeat (first | refine q1 ?_ | refine q2 ?_ | refine q3 ?_ | refine q4 ?_ | refine q5 ?_ | refine q6 ?_ | refine q7 ?_ | refine q8 ?_ | refine q9 ?_ | refine qa ?_ | refine qb ?_ | refine qc ?_ | refine qd ?_ | refine qe (by decide) ?_ | refine qf ?_ | refine qg ?_ | ((first | apply aops_all | apply adraw_all); (simp (disch := first | exact List.all_nil | omega | (simp only [go_sem]; done) | (simp only [ln, List.length_map]; omega) | (repeat' first | assumption | exact Ext.refl _ | refine Ext.app ?_ _)) only [go_sem]; rfl)))); (try ((first | apply aops_until | apply adraw_until); (simp (disch := first | exact List.all_nil | omega | (simp only [go_sem]; done) | (simp only [ln, List.length_map]; omega) | (repeat' first | assumption | exact Ext.refl _ | refine Ext.app ?_ _)) only [go_sem]; rfl))))
  refine aops_call_to (signalErr_c hX hxl) ?_
  ((repeat (first | refine q1 ?_ | refine q2 ?_ | refine q3 ?_ | refine q4 ?_ | refine q5 ?_ | refine q6 ?_ | refine q7 ?_ | refine q8 ?_ | refine q9 ?_ | refine qa ?_ | refine qb ?_ | refine qc ?_ | refine qd ?_ | refine qe (by decide) ?_ | refine qf ?_ | refine qg ?_ | ((first | apply aops_all | apply adraw_all); (simp (disch := first | exact List.all_nil | omega | (simp only [go_sem]; done) | (simp only [ln, List.length_map]; omega) | (repeat' first | assumption | exact Ext.refl _ | refine Ext.app ?_ _)) only [go_sem, hX.len, hX.idx, hX.load]; rfl)))); (try ((first | apply aops_until | apply adraw_until); (simp (disch := first | exact List.all_nil | omega | (simp only [go_sem]; done) | (simp only [ln, List.length_map]; omega) | (repeat' first | assumption | exact Ext.refl _ | refine Ext.app ?_ _)) only [go_sem, hX.len, hX.idx, hX.load]; rfl))))
  refine aops_call_to (within_c _ _ _) ?_
  ((repeat (first | refine q1 ?_ | refine q2 ?_ | refine q3 ?_ | refine q4 ?_ | refine q5 ?_ | refine q6 ?_ | refine q7 ?_ | refine q8 ?_ | refine q9 ?_ | refine qa ?_ | refine qb ?_ | refine qc ?_ | refine qd ?_ | refine qe (by decide) ?_ | refine qf ?_ | refine qg ?_ | ((first | apply aops_all | apply adraw_all); (simp (disch := first | exact List.all_nil | omega | (simp only [go_sem]; done) | (simp only [ln, List.length_map]; omega) | (repeat' first | assumption | exact Ext.refl _ | refine Ext.app ?_ _)) only [go_sem]; rfl)))); (try ((first | apply aops_until | apply adraw_until); (simp (disch := first | exact List.all_nil | omega | (simp only [go_sem]; done) | (simp only [ln, List.length_map]; omega) | (repeat' first | assumption | exact Ext.refl _ | refine Ext.app ?_ _)) only [go_sem]; rfl))))
  refine aops_call_to (unless_c _ _) ?_
  ((repeat (first | refine q1 ?_ | refine q2 ?_ | refine q3 ?_ | refine q4 ?_ | refine q5 ?_ | refine q6 ?_ | refine q7 ?_ | refine q8 ?_ | refine q9 ?_ | refine qa ?_ | refine qb ?_ | refine qc ?_ | refine qd ?_ | refine qe (by decide) ?_ | refine qf ?_ | refine qg ?_ | ((first | apply aops_all | apply adraw_all); (simp (disch := first | exact List.all_nil | omega | (simp only [go_sem]; done) | (simp only [ln, List.length_map]; omega) | (repeat' first | assumption | exact Ext.refl _ | refine Ext.app ?_ _)) only [go_sem]; rfl)))); (try ((first | apply aops_until | apply adraw_until); (simp (disch := first | exact List.all_nil | omega | (simp only [go_sem]; done) | (simp only [ln, List.length_map]; omega) | (repeat' first | assumption | exact Ext.refl _ | refine Ext.app ?_ _)) only [go_sem]; rfl))))
  refine aops_call_to (first_c (l := [_, _, _]) (Ints.last (l := [_, _, _]) 3) (by simp)) ?_
  have he : firstErr [degErrL deg, signalErrL x, (if decide (0 ≤ q ∧ q ≤ 64 * ((x.length : Int) - 1)) = true then 0 else 2)] = valErrL deg x q := rfl
  rw [he]
  have xG := (Ext.refl H).app [AObj.cells true 1 [.int .i64 (degErrL deg), .int .i64 (signalErrL x), .int .i64 (if decide (0 ≤ q ∧ q ≤ 64 * ((x.length : Int) - 1)) = true then 0 else 2)]]
  generalize (H ++ [AObj.cells true 1 [.int .i64 (degErrL deg), .int .i64 (signalErrL x), .int .i64 (if decide (0 ≤ q ∧ q ≤ 64 * ((x.length : Int) - 1)) = true then 0 else 2)]] : AHeap) = G at xG
  by_cases hz : valErrL deg x q = 0
  rotate_left 1
  · ((repeat (first | refine q1 ?_ | refine q2 ?_ | refine q3 ?_ | refine q4 ?_ | refine q5 ?_ | refine q6 ?_ | refine q7 ?_ | refine q8 ?_ | refine q9 ?_ | refine qa ?_ | refine qb ?_ | refine qc ?_ | refine qd ?_ | refine qe (by decide) ?_ | refine qf ?_ | refine qg ?_ | ((first | apply aops_all | apply adraw_all); (simp (disch := first | exact List.all_nil | omega | (simp only [go_sem]; done) | (simp only [ln, List.length_map]; omega) | (repeat' first | assumption | exact Ext.refl _ | refine Ext.app ?_ _)) only [go_sem, dec_t (show valErrL deg x q ≠ 0 from hz)]; rfl)))); (try ((first | apply aops_until | apply adraw_until); (simp (disch := first | exact List.all_nil | omega | (simp only [go_sem]; done) | (simp only [ln, List.length_map]; omega) | (repeat' first | assumption | exact Ext.refl _ | refine Ext.app ?_ _)) only [go_sem, dec_t (show valErrL deg x q ≠ 0 from hz)]; rfl))))
    refine cond_t rfl ?_
    ((repeat (first | refine q1 ?_ | refine q2 ?_ | refine q3 ?_ | refine q4 ?_ | refine q5 ?_ | refine q6 ?_ | refine q7 ?_ | refine q8 ?_ | refine q9 ?_ | refine qa ?_ | refine qb ?_ | refine qc ?_ | refine qd ?_ | refine qe (by decide) ?_ | refine qf ?_ | refine qg ?_ | ((first | apply aops_all | apply adraw_all); (simp (disch := first | exact List.all_nil | omega | (simp only [go_sem]; done) | (simp only [ln, List.length_map]; omega) | (repeat' first | assumption | exact Ext.refl _ | refine Ext.app ?_ _)) only [go_sem]; rfl)))); (try ((first | apply aops_until | apply adraw_until); (simp (disch := first | exact List.all_nil | omega | (simp only [go_sem]; done) | (simp only [ln, List.length_map]; omega) | (repeat' first | assumption | exact Ext.refl _ | refine Ext.app ?_ _)) only [go_sem]; rfl))))
    exact fin_3 ⟨by unfold valNumL valDenL; rw [if_neg hz, if_neg hz]; rfl, xG⟩
  ((repeat (first | refine q1 ?_ | refine q2 ?_ | refine q3 ?_ | refine q4 ?_ | refine q5 ?_ | refine q6 ?_ | refine q7 ?_ | refine q8 ?_ | refine q9 ?_ | refine qa ?_ | refine qb ?_ | refine qc ?_ | refine qd ?_ | refine qe (by decide) ?_ | refine qf ?_ | refine qg ?_ | ((first | apply aops_all | apply adraw_all); (simp (disch := first | exact List.all_nil | omega | (simp only [go_sem]; done) | (simp only [ln, List.length_map]; omega) | (repeat' first | assumption | exact Ext.refl _ | refine Ext.app ?_ _)) only [go_sem, hz]; rfl)))); (try ((first | apply aops_until | apply adraw_until); (simp (disch := first | exact List.all_nil | omega | (simp only [go_sem]; done) | (simp only [ln, List.length_map]; omega) | (repeat' first | assumption | exact Ext.refl _ | refine Ext.app ?_ _)) only [go_sem, hz]; rfl))))
  refine cond_f rfl ?_
  obtain ⟨hd, hs, hq⟩ := valErr_ok hz
  obtain ⟨s1, s2⟩ := signalErr_ok hs
  have hx2 := hx.trans xG
  have en : valNumL deg x q = valueL deg x q := by unfold valNumL; rw [if_pos hz]
  have ed : valDenL deg x q = denL deg := by unfold valDenL; rw [if_pos hz]
  rw [en, ed]
  ((repeat (first | refine q1 ?_ | refine q2 ?_ | refine q3 ?_ | refine q4 ?_ | refine q5 ?_ | refine q6 ?_ | refine q8 ?_ | refine q9 ?_ | refine qa ?_ | refine qb ?_ | refine qc ?_ | refine qd ?_ | refine qe (by decide) ?_ | refine qf ?_ | refine qg ?_ | (apply aops_all; (simp (disch := first | exact List.all_nil | omega | (simp only [go_sem]; done) | (simp only [ln, List.length_map]; omega) | (repeat' first | assumption | exact Ext.refl _ | refine Ext.app ?_ _)) only [go_sem, kern_idx hd, kern_load hx2 hd, store_kern]; rfl)))); (try (apply aops_until; (simp (disch := first | exact List.all_nil | omega | (simp only [go_sem]; done) | (simp only [ln, List.length_map]; omega) | (repeat' first | assumption | exact Ext.refl _ | refine Ext.app ?_ _)) only [go_sem, kern_idx hd, kern_load hx2 hd, store_kern]; rfl))))
  have g0 : (G ++ [AObj.cells true 0 (kern deg)])[G.length]? = some (.cells true 0 (kern deg)) := at_new
  have xG2 := xG.app [AObj.cells true 0 (kern deg)]
  generalize (G ++ [AObj.cells true 0 (kern deg)] : AHeap) = G2 at g0 xG2
  ((repeat (first | refine q1 ?_ | refine q2 ?_ | refine q3 ?_ | refine q4 ?_ | refine q5 ?_ | refine q6 ?_ | refine q7 ?_ | refine q8 ?_ | refine q9 ?_ | refine qa ?_ | refine qb ?_ | refine qc ?_ | refine qd ?_ | refine qe (by decide) ?_ | refine qf ?_ | refine qg ?_ | ((first | apply aops_all | apply adraw_all); (simp (disch := first | exact List.all_nil | omega | (simp only [go_sem]; done) | (simp only [ln, List.length_map]; omega) | (repeat' first | assumption | exact Ext.refl _ | refine Ext.app ?_ _)) only [go_sem, kern_all g0]; rfl)))); (try ((first | apply aops_until | apply adraw_until); (simp (disch := first | exact List.all_nil | omega | (simp only [go_sem]; done) | (simp only [ln, List.length_map]; omega) | (repeat' first | assumption | exact Ext.refl _ | refine Ext.app ?_ _)) only [go_sem, kern_all g0]; rfl))))
  refine adraw_call (N := []) (firstD (value_c hd (hX.ext xG2) s1 s2 hq)) ?_
  rw [List.append_nil]
  ((repeat (first | refine q1 ?_ | refine q2 ?_ | refine q3 ?_ | refine q4 ?_ | refine q5 ?_ | refine q6 ?_ | refine q7 ?_ | refine q8 ?_ | refine q9 ?_ | refine qa ?_ | refine qb ?_ | refine qc ?_ | refine qd ?_ | refine qe (by decide) ?_ | refine qf ?_ | refine qg ?_ | ((first | apply aops_all | apply adraw_all); (simp (disch := first | exact List.all_nil | omega | (simp only [go_sem]; done) | (simp only [ln, List.length_map]; omega) | (repeat' first | assumption | exact Ext.refl _ | refine Ext.app ?_ _)) only [go_sem, kern_den g0]; rfl)))); (try ((first | apply aops_until | apply adraw_until); (simp (disch := first | exact List.all_nil | omega | (simp only [go_sem]; done) | (simp only [ln, List.length_map]; omega) | (repeat' first | assumption | exact Ext.refl _ | refine Ext.app ?_ _)) only [go_sem, kern_den g0]; rfl))))
  exact fin_3 ⟨by rw [hz]; rfl, xG2⟩
end
end Go.Lq

namespace Go.Lq
open Go
open Go.Proofs

theorem store_b1 {H : AHeap} {id e : Nat} {x y : Value} (h : H[id]? = some (.cells true e [x])) (ha : isAtom y = true) (hc : y.cells = ⟨[y]⟩) : storeR 1 (.pointer (some ⟨id, 0, none⟩)) y H = some (undef, H.set id (.cells true e [y])) := by
  have e2 : ([y] : List Value).all isAtom = true := by simp [ha]
  have e3 : setCells [x] 0 [y] = [y] := rfl
  simp only [storeR, hc, List.size_toArray, storeAt, h, e2, e3, and_true, List.length_cons, List.length_nil]
  rfl
theorem store_b2 {H : AHeap} {id e : Nat} {x y : Value} {a b : Int} (h : H[id]? = some (.cells true e [x, y])) : storeR 2 (.pointer (some ⟨id, 0, none⟩)) (.agg ⟨[.int .i64 a, .int .i64 b]⟩) H = some (undef, H.set id (.cells true e [.int .i64 a, .int .i64 b])) := store_at2v h rfl rfl
/-! ### A slice in a box, grown in a range over a function -/
theorem OwnI.aside {H0 H : AHeap} {l : List Int} {v : Value} (h : OwnI H0 H l v) {j : Nat} (hj : j < H0.length) : l.length = 0 ∨ idOf v ≠ j := by
  rcases h.2 with ⟨rfl, h0⟩ | ⟨id, rfl, h1, _, _⟩
  · exact .inl h0
  · exact .inr (by show id ≠ j; omega)
theorem OwnI.pushedL {H0 H : AHeap} {l : List Int} {v : Value} (h : OwnI H0 H l v) (hx : H0.length ≤ H.length) (x : Int) : OwnI H0 (pushH H v l x) (l ++ [x]) (pushV H l.length) := by
  have := Own.appended (h.app [.cells true 1 [.int .i64 x]]) (m := 1) (cs := [.int .i64 x]) rfl (by omega) (by simp; omega)
  unfold OwnI
  simpa [pushV, pushH] using this
theorem Keeps.push {k : Nat} {G G' H : AHeap} {l : List Int} {v : Value} (h : Keeps k G H) (ho : OwnI G' H l v) (hg : G.length ≤ G'.length) (x : Int) : Keeps k G (pushH H v l x) := by
  refine ⟨by rw [pushH_len]; have := h.1; omega, fun i hi hk => ?_⟩
  have hl : i < H.length := by have := h.1; omega
  unfold pushH
  rw [appH_at (by simp; omega) (ho.nil_or (ho.aside (by omega))), List.getElem?_append_left hl]
  exact h.2 i hi hk
/-- The box at k holds a slice of the call's own; else all is as in G (of which the object behind it is another's). -/
structure BoxI (k : Nat) (G : AHeap) (l : List Int) (v : Value) (H : AHeap) : Prop where
  keeps : Keeps k G H
  box : H[k]? = some (.cells true 0 [v])
  own : OwnI (G ++ [.dead]) H l v
theorem BoxI.set {k : Nat} {G H : AHeap} {l : List Int} {v : Value} (h : BoxI k G l v H) (hk : k < G.length) (c : AObj) : BoxI k G l v (H.set G.length c) :=
  ⟨h.keeps.set (.inr (Nat.le_refl _)) _, by rw [List.getElem?_set_ne (by omega)]; exact h.box, h.own.set_ne (h.own.aside (by simp)) _⟩
theorem BoxI.app {k : Nat} {G H : AHeap} {l : List Int} {v : Value} (h : BoxI k G l v H) (N : AHeap) : BoxI k G l v (H ++ N) :=
  ⟨h.keeps.app N, at_app h.box, h.own.app N⟩
theorem BoxI.push {k : Nat} {G H : AHeap} {l : List Int} {v : Value} (h : BoxI k G l v H) (hk : k < G.length) (hl : G.length < H.length) (x : Int) {Rb : AObj} (hR : H[G.length]? = some Rb) :
    storeR 1 (.pointer (some ⟨k, 0, none⟩)) (pushV H l.length) (pushH H v l x) = some (undef, (pushH H v l x).set k (.cells true 0 [pushV H l.length])) ∧
    BoxI k G (l ++ [x]) (pushV H l.length) ((pushH H v l x).set k (.cells true 0 [pushV H l.length])) ∧ ((pushH H v l x).set k (.cells true 0 [pushV H l.length]))[G.length]? = some Rb := by
  have b1 := pushH_at (l := l) (x := x) h.box (h.own.nil_or (h.own.aside (by simp; omega)))
  have b2 := pushH_at (l := l) (x := x) hR (h.own.nil_or (h.own.aside (by simp)))
  refine ⟨store_b1 b1 rfl rfl, ⟨(h.keeps.push h.own (by simp) x).set (.inl rfl) _, get_set_self b1, ?_⟩, by rw [List.getElem?_set_ne (by omega)]; exact b2⟩
  have ho := h.own.pushedL (by simp; omega) x
  exact ho.set_ne (.inr (by show H.length + 1 ≠ k; omega)) _

/-! ### slices.Backward over numbers -/
theorem fill_none (zs : List Value) : fillA zs [] = some zs := rfl
theorem fin_l2f {c : RCode} {n a b : Nat} {R : Value → AHeap → Prop} {e : Env} {H : AHeap} {id : Nat} {o : Bool} {z : Nat} {x y : Value} (hp : e.getD a undef = .pointer (some ⟨id, 0, none⟩)) (h1 : H[id]? = some (.cells o z [x, y])) (h : R (.tuple #[.agg ⟨[x, y]⟩, e.getD b undef]) H) :
    Fin ⟨c, n, [.loadN 2 a, .tmp b]⟩ R .ret e H := fin_l2 (u := .agg ⟨[x, y]⟩) (by rw [hp]; exact loadN_at h1 (by simp)) h

section
variable {H : AHeap}
end
end Go.Lq

namespace Go.Lq
open Go
open Go.Proofs

theorem most_max3 {a b c : Int} {H : AHeap} : mostR true (.int .i64 a) [.int .i64 b, .int .i64 c] H = some (.int .i64 (max (max a b) c), H) := by
  simp only [mostR, mostA, Option.map_some, if_true]
  congr 3
  split <;> split <;> omega
theorem most_min3 {a b c : Int} {H : AHeap} : mostR false (.int .i64 a) [.int .i64 b, .int .i64 c] H = some (.int .i64 (min (min a b) c), H) := by
  simp only [mostR, mostA, Option.map_some]
  congr 3
  simp only [Bool.false_eq_true, if_false]
  split <;> split <;> omega
attribute [go_sem] most_max3 most_min3
def remAtL (deg f : Int) : Int × Int := if wAtErrL deg f = 0 then remL deg f else (0, 0)
def maxRemAtL (deg : Int) : Int × Int := if degErrL deg = 0 then maxRemL deg else (0, 0)
section
variable {H : AHeap}
theorem remainderAt_c {deg f : Int} (hx : Ext H0 H) : ACall Go.Proofs.Tryd.prog 63 [.int .i64 deg, .int .i64 f] H fun v H' =>
    v = .tuple #[fracV (remAtL deg f), .int .i64 (wAtErrL deg f)] ∧ H' = H := by
  refine ACall.drop (closed_frac1 _ _) ?_
  (refine a63 ?_; simp only [n63, List.replicate, List.length_cons, List.length_nil, List.cons_append, List.nil_append])
  ((repeat (first | refine q1 ?_ | refine q2 ?_ | refine q3 ?_ | refine q4 ?_ | refine q5 ?_ | refine q6 ?_ | refine q7 ?_ | refine q8 ?_ | refine q9 ?_ | refine qa ?_ | refine qb ?_ | refine qc ?_ | refine qd ?_ | refine qe (by decide) ?_ | refine qf ?_ | refine qg ?_ | ((first | apply aops_all | apply adraw_all); (simp (disch := first | exact List.all_nil | omega | (simp only [go_sem]; done) | (simp only [ln, List.length_map]; omega) | (repeat' first | assumption | exact Ext.refl _ | refine Ext.app ?_ _)) only [go_sem]; rfl)))); (try ((first | apply aops_until | apply adraw_until); (simp (disch := first | exact List.all_nil | omega | (simp only [go_sem]; done) | (simp only [ln, List.length_map]; omega) | (repeat' first | assumption | exact Ext.refl _ | refine Ext.app ?_ _)) only [go_sem]; rfl))))
  have y0 : (H ++ [AObj.cells true 0 [.int .i64 0, .int .i64 0]])[H.length]? = some (.cells true 0 [.int .i64 0, .int .i64 0]) := at_new
  have x0 : Ext H (H ++ [AObj.cells true 0 [.int .i64 0, .int .i64 0]]) := (Ext.refl H).app _
  generalize (H ++ [AObj.cells true 0 [.int .i64 0, .int .i64 0]] : AHeap) = J at y0 x0
  refine aops_call_to (degreeErr_c _) ?_
  ((repeat (first | refine q1 ?_ | refine q2 ?_ | refine q3 ?_ | refine q4 ?_ | refine q5 ?_ | refine q6 ?_ | refine q7 ?_ | refine q8 ?_ | refine q9 ?_ | refine qa ?_ | refine qb ?_ | refine qc ?_ | refine qd ?_ | refine qe (by decide) ?_ | refine qf ?_ | refine qg ?_ | ((first | apply aops_all | apply adraw_all); (simp (disch := first | exact List.all_nil | omega | (simp only [go_sem]; done) | (simp only [ln, List.length_map]; omega) | (repeat' first | assumption | exact Ext.refl _ | refine Ext.app ?_ _)) only [go_sem]; rfl)))); (try ((first | apply aops_until | apply adraw_until); (simp (disch := first | exact List.all_nil | omega | (simp only [go_sem]; done) | (simp only [ln, List.length_map]; omega) | (repeat' first | assumption | exact Ext.refl _ | refine Ext.app ?_ _)) only [go_sem]; rfl))))
  refine aops_call_to (fractionErr_c _) ?_
  ((repeat (first | refine q1 ?_ | refine q2 ?_ | refine q3 ?_ | refine q4 ?_ | refine q5 ?_ | refine q6 ?_ | refine q7 ?_ | refine q8 ?_ | refine q9 ?_ | refine qa ?_ | refine qb ?_ | refine qc ?_ | refine qd ?_ | refine qe (by decide) ?_ | refine qf ?_ | refine qg ?_ | ((first | apply aops_all | apply adraw_all); (simp (disch := first | exact List.all_nil | omega | (simp only [go_sem]; done) | (simp only [ln, List.length_map]; omega) | (repeat' first | assumption | exact Ext.refl _ | refine Ext.app ?_ _)) only [go_sem]; rfl)))); (try ((first | apply aops_until | apply adraw_until); (simp (disch := first | exact List.all_nil | omega | (simp only [go_sem]; done) | (simp only [ln, List.length_map]; omega) | (repeat' first | assumption | exact Ext.refl _ | refine Ext.app ?_ _)) only [go_sem]; rfl))))
  refine aops_call_to (first_c (l := [_, _]) (Ints.last (l := [_, _]) 2) (by simp)) ?_
  have he : firstErr [degErrL deg, fracErrL f] = wAtErrL deg f := rfl
  rw [he]
  have y1 := at_app (N := [AObj.cells true 1 [.int .i64 (degErrL deg), .int .i64 (fracErrL f)]]) y0
  have x1 := x0.app [AObj.cells true 1 [.int .i64 (degErrL deg), .int .i64 (fracErrL f)]]
  generalize (J ++ [AObj.cells true 1 [.int .i64 (degErrL deg), .int .i64 (fracErrL f)]] : AHeap) = G at y1 x1
  by_cases hz : wAtErrL deg f = 0
  rotate_left 1
  · ((repeat (first | refine q1 ?_ | refine q2 ?_ | refine q3 ?_ | refine q4 ?_ | refine q5 ?_ | refine q6 ?_ | refine q7 ?_ | refine q8 ?_ | refine q9 ?_ | refine qa ?_ | refine qb ?_ | refine qc ?_ | refine qd ?_ | refine qe (by decide) ?_ | refine qf ?_ | refine qg ?_ | ((first | apply aops_all | apply adraw_all); (simp (disch := first | exact List.all_nil | omega | (simp only [go_sem]; done) | (simp only [ln, List.length_map]; omega) | (repeat' first | assumption | exact Ext.refl _ | refine Ext.app ?_ _)) only [go_sem, dec_t (show wAtErrL deg f ≠ 0 from hz)]; rfl)))); (try ((first | apply aops_until | apply adraw_until); (simp (disch := first | exact List.all_nil | omega | (simp only [go_sem]; done) | (simp only [ln, List.length_map]; omega) | (repeat' first | assumption | exact Ext.refl _ | refine Ext.app ?_ _)) only [go_sem, dec_t (show wAtErrL deg f ≠ 0 from hz)]; rfl))))
    refine cond_t rfl ?_
    ((repeat (first | refine q1 ?_ | refine q2 ?_ | refine q3 ?_ | refine q4 ?_ | refine q5 ?_ | refine q6 ?_ | refine q7 ?_ | refine q8 ?_ | refine q9 ?_ | refine qa ?_ | refine qb ?_ | refine qc ?_ | refine qd ?_ | refine qe (by decide) ?_ | refine qf ?_ | refine qg ?_ | ((first | apply aops_all | apply adraw_all); (simp (disch := first | exact List.all_nil | omega | (simp only [go_sem]; done) | (simp only [ln, List.length_map]; omega) | (repeat' first | assumption | exact Ext.refl _ | refine Ext.app ?_ _)) only [go_sem, fill_none, store_b2 (a := 0) (b := 0) y1]; rfl)))); (try ((first | apply aops_until | apply adraw_until); (simp (disch := first | exact List.all_nil | omega | (simp only [go_sem]; done) | (simp only [ln, List.length_map]; omega) | (repeat' first | assumption | exact Ext.refl _ | refine Ext.app ?_ _)) only [go_sem, fill_none, store_b2 (a := 0) (b := 0) y1]; rfl))))
    exact fin_l2f rfl (get_set_self y1) ⟨by unfold remAtL; rw [if_neg hz]; rfl, x1.set (Nat.le_refl _) _⟩
  ((repeat (first | refine q1 ?_ | refine q2 ?_ | refine q3 ?_ | refine q4 ?_ | refine q5 ?_ | refine q6 ?_ | refine q7 ?_ | refine q8 ?_ | refine q9 ?_ | refine qa ?_ | refine qb ?_ | refine qc ?_ | refine qd ?_ | refine qe (by decide) ?_ | refine qf ?_ | refine qg ?_ | ((first | apply aops_all | apply adraw_all); (simp (disch := first | exact List.all_nil | omega | (simp only [go_sem]; done) | (simp only [ln, List.length_map]; omega) | (repeat' first | assumption | exact Ext.refl _ | refine Ext.app ?_ _)) only [go_sem, hz]; rfl)))); (try ((first | apply aops_until | apply adraw_until); (simp (disch := first | exact List.all_nil | omega | (simp only [go_sem]; done) | (simp only [ln, List.length_map]; omega) | (repeat' first | assumption | exact Ext.refl _ | refine Ext.app ?_ _)) only [go_sem, hz]; rfl))))
  refine cond_f rfl ?_
  obtain ⟨hd, hf⟩ := wAtErr_ok hz
  have hx2 := hx.trans x1
  ((repeat (first | refine q1 ?_ | refine q2 ?_ | refine q3 ?_ | refine q4 ?_ | refine q5 ?_ | refine q6 ?_ | refine q8 ?_ | refine q9 ?_ | refine qa ?_ | refine qb ?_ | refine qc ?_ | refine qd ?_ | refine qe (by decide) ?_ | refine qf ?_ | refine qg ?_ | (apply aops_all; (simp (disch := first | exact List.all_nil | omega | (simp only [go_sem]; done) | (simp only [ln, List.length_map]; omega) | (repeat' first | assumption | exact Ext.refl _ | refine Ext.app ?_ _)) only [go_sem, kern_idx hd, kern_load hx2 hd, store_kern]; rfl)))); (try (apply aops_until; (simp (disch := first | exact List.all_nil | omega | (simp only [go_sem]; done) | (simp only [ln, List.length_map]; omega) | (repeat' first | assumption | exact Ext.refl _ | refine Ext.app ?_ _)) only [go_sem, kern_idx hd, kern_load hx2 hd, store_kern]; rfl))))
  have g0 : (G ++ [AObj.cells true 0 (kern deg)])[G.length]? = some (.cells true 0 (kern deg)) := at_new
  have y2 := at_app (N := [AObj.cells true 0 (kern deg)]) y1
  have x2 := x1.app [AObj.cells true 0 (kern deg)]
  generalize (G ++ [AObj.cells true 0 (kern deg)] : AHeap) = G2 at g0 x2 y2
  have pb := kprod_bound hd hf
  have rd := rden_pos (deg := deg)
  ((repeat (first | refine q1 ?_ | refine q2 ?_ | refine q3 ?_ | refine q4 ?_ | refine q5 ?_ | refine q6 ?_ | refine q7 ?_ | refine q8 ?_ | refine q9 ?_ | refine qa ?_ | refine qb ?_ | refine qc ?_ | refine qd ?_ | refine qe (by decide) ?_ | refine qf ?_ | refine qg ?_ | ((first | apply aops_all | apply adraw_all); (simp (disch := first | exact List.all_nil | omega | (simp only [go_sem]; done) | (simp only [ln, List.length_map]; omega) | (repeat' first | assumption | exact Ext.refl _ | refine Ext.app ?_ _)) only [go_sem, kern_p g0]; rfl)))); (try ((first | apply aops_until | apply adraw_until); (simp (disch := first | exact List.all_nil | omega | (simp only [go_sem]; done) | (simp only [ln, List.length_map]; omega) | (repeat' first | assumption | exact Ext.refl _ | refine Ext.app ?_ _)) only [go_sem, kern_p g0]; rfl))))
  refine adraw_call (N := []) (firstD (product_c hd hf)) ?_
  rw [List.append_nil]
  ((repeat (first | refine q1 ?_ | refine q2 ?_ | refine q3 ?_ | refine q4 ?_ | refine q5 ?_ | refine q6 ?_ | refine q7 ?_ | refine q8 ?_ | refine q9 ?_ | refine qa ?_ | refine qb ?_ | refine qc ?_ | refine qd ?_ | refine qe (by decide) ?_ | refine qf ?_ | refine qg ?_ | ((first | apply aops_all | apply adraw_all); (simp (disch := first | exact List.all_nil | omega | (simp only [go_sem]; done) | (simp only [ln, List.length_map]; omega) | (repeat' first | assumption | exact Ext.refl _ | refine Ext.app ?_ _)) only [go_sem, kern_rden g0]; rfl)))); (try ((first | apply aops_until | apply adraw_until); (simp (disch := first | exact List.all_nil | omega | (simp only [go_sem]; done) | (simp only [ln, List.length_map]; omega) | (repeat' first | assumption | exact Ext.refl _ | refine Ext.app ?_ _)) only [go_sem, kern_rden g0]; rfl))))
  refine adraw_call (N := []) (firstD (lowest_c _ _ (by omega) (by omega))) ?_
  rw [List.append_nil]
  ((repeat (first | refine q1 ?_ | refine q2 ?_ | refine q3 ?_ | refine q4 ?_ | refine q5 ?_ | refine q6 ?_ | refine q7 ?_ | refine q8 ?_ | refine q9 ?_ | refine qa ?_ | refine qb ?_ | refine qc ?_ | refine qd ?_ | refine qe (by decide) ?_ | refine qf ?_ | refine qg ?_ | ((first | apply aops_all | apply adraw_all); (simp (disch := first | exact List.all_nil | omega | (simp only [go_sem]; done) | (simp only [ln, List.length_map]; omega) | (repeat' first | assumption | exact Ext.refl _ | refine Ext.app ?_ _)) only [go_sem, store_b2 (a := (lowF (prodL deg f) (rdenL deg)).1) (b := (lowF (prodL deg f) (rdenL deg)).2) y2]; rfl)))); (try ((first | apply aops_until | apply adraw_until); (simp (disch := first | exact List.all_nil | omega | (simp only [go_sem]; done) | (simp only [ln, List.length_map]; omega) | (repeat' first | assumption | exact Ext.refl _ | refine Ext.app ?_ _)) only [go_sem, store_b2 (a := (lowF (prodL deg f) (rdenL deg)).1) (b := (lowF (prodL deg f) (rdenL deg)).2) y2]; rfl))))
  exact fin_l2f rfl (get_set_self y2) ⟨by unfold remAtL; rw [if_pos hz, hz]; rfl, x2.set (Nat.le_refl _) _⟩

theorem maximumRemainder_c {deg : Int} (hx : Ext H0 H) : ACall Go.Proofs.Tryd.prog 64 [.int .i64 deg] H fun v H' =>
    v = .tuple #[fracV (maxRemAtL deg), .int .i64 (degErrL deg)] ∧ H' = H := by
  refine ACall.drop (closed_frac1 _ _) ?_
  (refine a64 ?_; simp only [n64, List.replicate, List.length_cons, List.length_nil, List.cons_append, List.nil_append])
  ((repeat (first | refine q1 ?_ | refine q2 ?_ | refine q3 ?_ | refine q4 ?_ | refine q5 ?_ | refine q6 ?_ | refine q7 ?_ | refine q8 ?_ | refine q9 ?_ | refine qa ?_ | refine qb ?_ | refine qc ?_ | refine qd ?_ | refine qe (by decide) ?_ | refine qf ?_ | refine qg ?_ | ((first | apply aops_all | apply adraw_all); (simp (disch := first | exact List.all_nil | omega | (simp only [go_sem]; done) | (simp only [ln, List.length_map]; omega) | (repeat' first | assumption | exact Ext.refl _ | refine Ext.app ?_ _)) only [go_sem]; rfl)))); (try ((first | apply aops_until | apply adraw_until); (simp (disch := first | exact List.all_nil | omega | (simp only [go_sem]; done) | (simp only [ln, List.length_map]; omega) | (repeat' first | assumption | exact Ext.refl _ | refine Ext.app ?_ _)) only [go_sem]; rfl))))
  have y1 : (H ++ [AObj.cells true 0 [.int .i64 0, .int .i64 0]])[H.length]? = some (.cells true 0 [.int .i64 0, .int .i64 0]) := at_new
  have x1 : Ext H (H ++ [AObj.cells true 0 [.int .i64 0, .int .i64 0]]) := (Ext.refl H).app _
  generalize (H ++ [AObj.cells true 0 [.int .i64 0, .int .i64 0]] : AHeap) = G at y1 x1
  refine aops_call_to (degreeErr_c _) ?_
  by_cases hz : degErrL deg = 0
  rotate_left 1
  · ((repeat (first | refine q1 ?_ | refine q2 ?_ | refine q3 ?_ | refine q4 ?_ | refine q5 ?_ | refine q6 ?_ | refine q7 ?_ | refine q8 ?_ | refine q9 ?_ | refine qa ?_ | refine qb ?_ | refine qc ?_ | refine qd ?_ | refine qe (by decide) ?_ | refine qf ?_ | refine qg ?_ | ((first | apply aops_all | apply adraw_all); (simp (disch := first | exact List.all_nil | omega | (simp only [go_sem]; done) | (simp only [ln, List.length_map]; omega) | (repeat' first | assumption | exact Ext.refl _ | refine Ext.app ?_ _)) only [go_sem, dec_t (show degErrL deg ≠ 0 from hz)]; rfl)))); (try ((first | apply aops_until | apply adraw_until); (simp (disch := first | exact List.all_nil | omega | (simp only [go_sem]; done) | (simp only [ln, List.length_map]; omega) | (repeat' first | assumption | exact Ext.refl _ | refine Ext.app ?_ _)) only [go_sem, dec_t (show degErrL deg ≠ 0 from hz)]; rfl))))
    refine cond_t rfl ?_
    ((repeat (first | refine q1 ?_ | refine q2 ?_ | refine q3 ?_ | refine q4 ?_ | refine q5 ?_ | refine q6 ?_ | refine q7 ?_ | refine q8 ?_ | refine q9 ?_ | refine qa ?_ | refine qb ?_ | refine qc ?_ | refine qd ?_ | refine qe (by decide) ?_ | refine qf ?_ | refine qg ?_ | ((first | apply aops_all | apply adraw_all); (simp (disch := first | exact List.all_nil | omega | (simp only [go_sem]; done) | (simp only [ln, List.length_map]; omega) | (repeat' first | assumption | exact Ext.refl _ | refine Ext.app ?_ _)) only [go_sem, fill_none, store_b2 (a := 0) (b := 0) y1]; rfl)))); (try ((first | apply aops_until | apply adraw_until); (simp (disch := first | exact List.all_nil | omega | (simp only [go_sem]; done) | (simp only [ln, List.length_map]; omega) | (repeat' first | assumption | exact Ext.refl _ | refine Ext.app ?_ _)) only [go_sem, fill_none, store_b2 (a := 0) (b := 0) y1]; rfl))))
    exact fin_l2f rfl (get_set_self y1) ⟨by unfold maxRemAtL; rw [if_neg hz]; rfl, x1.set (Nat.le_refl _) _⟩
  ((repeat (first | refine q1 ?_ | refine q2 ?_ | refine q3 ?_ | refine q4 ?_ | refine q5 ?_ | refine q6 ?_ | refine q7 ?_ | refine q8 ?_ | refine q9 ?_ | refine qa ?_ | refine qb ?_ | refine qc ?_ | refine qd ?_ | refine qe (by decide) ?_ | refine qf ?_ | refine qg ?_ | ((first | apply aops_all | apply adraw_all); (simp (disch := first | exact List.all_nil | omega | (simp only [go_sem]; done) | (simp only [ln, List.length_map]; omega) | (repeat' first | assumption | exact Ext.refl _ | refine Ext.app ?_ _)) only [go_sem, hz]; rfl)))); (try ((first | apply aops_until | apply adraw_until); (simp (disch := first | exact List.all_nil | omega | (simp only [go_sem]; done) | (simp only [ln, List.length_map]; omega) | (repeat' first | assumption | exact Ext.refl _ | refine Ext.app ?_ _)) only [go_sem, hz]; rfl))))
  refine cond_f rfl ?_
  have hd := degErr_ok hz
  have hx2 := hx.trans x1
  ((repeat (first | refine q1 ?_ | refine q2 ?_ | refine q3 ?_ | refine q4 ?_ | refine q5 ?_ | refine q6 ?_ | refine q8 ?_ | refine q9 ?_ | refine qa ?_ | refine qb ?_ | refine qc ?_ | refine qd ?_ | refine qe (by decide) ?_ | refine qf ?_ | refine qg ?_ | (apply aops_all; (simp (disch := first | exact List.all_nil | omega | (simp only [go_sem]; done) | (simp only [ln, List.length_map]; omega) | (repeat' first | assumption | exact Ext.refl _ | refine Ext.app ?_ _)) only [go_sem, kern_idx hd, kern_load hx2 hd, store_kern]; rfl)))); (try (apply aops_until; (simp (disch := first | exact List.all_nil | omega | (simp only [go_sem]; done) | (simp only [ln, List.length_map]; omega) | (repeat' first | assumption | exact Ext.refl _ | refine Ext.app ?_ _)) only [go_sem, kern_idx hd, kern_load hx2 hd, store_kern]; rfl))))
  have g0 : (G ++ [AObj.cells true 0 (kern deg)])[G.length]? = some (.cells true 0 (kern deg)) := at_new
  have y2 := at_app (N := [AObj.cells true 0 (kern deg)]) y1
  have x2 := x1.app [AObj.cells true 0 (kern deg)]
  generalize (G ++ [AObj.cells true 0 (kern deg)] : AHeap) = G2 at g0 x2 y2
  have rd := rden_pos (deg := deg)
  ((repeat (first | refine q1 ?_ | refine q2 ?_ | refine q3 ?_ | refine q4 ?_ | refine q5 ?_ | refine q6 ?_ | refine q7 ?_ | refine q8 ?_ | refine q9 ?_ | refine qa ?_ | refine qb ?_ | refine qc ?_ | refine qd ?_ | refine qe (by decide) ?_ | refine qf ?_ | refine qg ?_ | ((first | apply aops_all | apply adraw_all); (simp (disch := first | exact List.all_nil | omega | (simp only [go_sem]; done) | (simp only [ln, List.length_map]; omega) | (repeat' first | assumption | exact Ext.refl _ | refine Ext.app ?_ _)) only [go_sem]; rfl)))); (try ((first | apply aops_until | apply adraw_until); (simp (disch := first | exact List.all_nil | omega | (simp only [go_sem]; done) | (simp only [ln, List.length_map]; omega) | (repeat' first | assumption | exact Ext.refl _ | refine Ext.app ?_ _)) only [go_sem]; rfl))))
  refine awp_loop_n [false, false, true, true, false, true, true, false, false, false, false, false, false, false, false, false, false, false, true, false, false, false, false, false, false, false, false, false, false, false, false, false, false, false, false] 64 (fun i e H' => H' = G2 ∧ e = [junk, junk, .pointer (some ⟨H.length, 0, none⟩), .int .i64 0, junk, .pointer (some ⟨G.length, 0, none⟩), .int .i64 (maxTo deg i), junk, junk, junk, junk, junk, junk, junk, junk, junk, junk, junk, .int .i64 i, junk, junk, junk, junk, junk, junk, junk, junk, junk, junk, junk, junk, junk, junk, junk, junk]) ?_ ?_
  · exact ⟨rfl, by simp [forget, maxTo]⟩
  rintro i e H' hi ⟨rfl, rfl⟩
  have mb := maxTo_bound hd i hi
  ((repeat (first | refine q1 ?_ | refine q2 ?_ | refine q3 ?_ | refine q4 ?_ | refine q5 ?_ | refine q6 ?_ | refine q7 ?_ | refine q8 ?_ | refine q9 ?_ | refine qa ?_ | refine qb ?_ | refine qc ?_ | refine qd ?_ | refine qe (by decide) ?_ | refine qf ?_ | refine qg ?_ | ((first | apply aops_all | apply adraw_all); (simp (disch := first | exact List.all_nil | omega | (simp only [go_sem]; done) | (simp only [ln, List.length_map]; omega) | (repeat' first | assumption | exact Ext.refl _ | refine Ext.app ?_ _)) only [go_sem]; rfl)))); (try ((first | apply aops_until | apply adraw_until); (simp (disch := first | exact List.all_nil | omega | (simp only [go_sem]; done) | (simp only [ln, List.length_map]; omega) | (repeat' first | assumption | exact Ext.refl _ | refine Ext.app ?_ _)) only [go_sem]; rfl))))
  refine cond_p rfl (fun hlt => ?_) (fun hge => ?_)
  · have hf : 0 ≤ (i : Int) ∧ (i : Int) ≤ 63 := by omega
    have pb := kprod_bound hd hf
    ((repeat (first | refine q1 ?_ | refine q2 ?_ | refine q3 ?_ | refine q4 ?_ | refine q5 ?_ | refine q6 ?_ | refine q7 ?_ | refine q8 ?_ | refine q9 ?_ | refine qa ?_ | refine qb ?_ | refine qc ?_ | refine qd ?_ | refine qe (by decide) ?_ | refine qf ?_ | refine qg ?_ | ((first | apply aops_all | apply adraw_all); (simp (disch := first | exact List.all_nil | omega | (simp only [go_sem]; done) | (simp only [ln, List.length_map]; omega) | (repeat' first | assumption | exact Ext.refl _ | refine Ext.app ?_ _)) only [go_sem, kern_p g0]; rfl)))); (try ((first | apply aops_until | apply adraw_until); (simp (disch := first | exact List.all_nil | omega | (simp only [go_sem]; done) | (simp only [ln, List.length_map]; omega) | (repeat' first | assumption | exact Ext.refl _ | refine Ext.app ?_ _)) only [go_sem, kern_p g0]; rfl))))
    refine aops_call_to (product_c hd hf) ?_
    ((repeat (first | refine q1 ?_ | refine q2 ?_ | refine q3 ?_ | refine q4 ?_ | refine q5 ?_ | refine q6 ?_ | refine q7 ?_ | refine q8 ?_ | refine q9 ?_ | refine qa ?_ | refine qb ?_ | refine qc ?_ | refine qd ?_ | refine qe (by decide) ?_ | refine qf ?_ | refine qg ?_ | ((first | apply aops_all | apply adraw_all); (simp (disch := first | exact List.all_nil | omega | (simp only [go_sem]; done) | (simp only [ln, List.length_map]; omega) | (repeat' first | assumption | exact Ext.refl _ | refine Ext.app ?_ _)) only [go_sem]; rfl)))); (try ((first | apply aops_until | apply adraw_until); (simp (disch := first | exact List.all_nil | omega | (simp only [go_sem]; done) | (simp only [ln, List.length_map]; omega) | (repeat' first | assumption | exact Ext.refl _ | refine Ext.app ?_ _)) only [go_sem]; rfl))))
    exact ⟨by omega, rfl, by simp [forget, maxTo]⟩
  · obtain rfl : i = 64 := by omega
    ((repeat (first | refine q1 ?_ | refine q2 ?_ | refine q3 ?_ | refine q4 ?_ | refine q5 ?_ | refine q6 ?_ | refine q7 ?_ | refine q8 ?_ | refine q9 ?_ | refine qa ?_ | refine qb ?_ | refine qc ?_ | refine qd ?_ | refine qe (by decide) ?_ | refine qf ?_ | refine qg ?_ | ((first | apply aops_all | apply adraw_all); (simp (disch := first | exact List.all_nil | omega | (simp only [go_sem]; done) | (simp only [ln, List.length_map]; omega) | (repeat' first | assumption | exact Ext.refl _ | refine Ext.app ?_ _)) only [go_sem, kern_rden g0]; rfl)))); (try ((first | apply aops_until | apply adraw_until); (simp (disch := first | exact List.all_nil | omega | (simp only [go_sem]; done) | (simp only [ln, List.length_map]; omega) | (repeat' first | assumption | exact Ext.refl _ | refine Ext.app ?_ _)) only [go_sem, kern_rden g0]; rfl))))
    refine aops_call_to (lowest_c _ _ (by omega) (by omega)) ?_
    ((repeat (first | refine q1 ?_ | refine q2 ?_ | refine q3 ?_ | refine q4 ?_ | refine q5 ?_ | refine q6 ?_ | refine q7 ?_ | refine q8 ?_ | refine q9 ?_ | refine qa ?_ | refine qb ?_ | refine qc ?_ | refine qd ?_ | refine qe (by decide) ?_ | refine qf ?_ | refine qg ?_ | ((first | apply aops_all | apply adraw_all); (simp (disch := first | exact List.all_nil | omega | (simp only [go_sem]; done) | (simp only [ln, List.length_map]; omega) | (repeat' first | assumption | exact Ext.refl _ | refine Ext.app ?_ _)) only [go_sem, store_b2 (a := (lowF (maxTo deg 64) (rdenL deg)).1) (b := (lowF (maxTo deg 64) (rdenL deg)).2) y2]; rfl)))); (try ((first | apply aops_until | apply adraw_until); (simp (disch := first | exact List.all_nil | omega | (simp only [go_sem]; done) | (simp only [ln, List.length_map]; omega) | (repeat' first | assumption | exact Ext.refl _ | refine Ext.app ?_ _)) only [go_sem, store_b2 (a := (lowF (maxTo deg 64) (rdenL deg)).1) (b := (lowF (maxTo deg 64) (rdenL deg)).2) y2]; rfl))))
    exact fin_l2f rfl (get_set_self y2) ⟨by unfold maxRemAtL; rw [if_pos hz, hz]; rfl, x2.set (Nat.le_refl _) _⟩

end
end Go.Lq

namespace Go.Lq
open Go
open Go.Proofs

def eqvR (kind : Nat) (neg : Bool) (x y : Value) (H : AHeap) : Option (Value × AHeap) := (eqvA kind x y).map fun b => (.bool (neg != b), H)
theorem r_eqv {ρ : Operand → Value} {H : AHeap} {k : Nat} {neg : Bool} {x y : Operand} : ropRun (.eqv k neg x y) ρ H = eqvR k neg (ρ x) (ρ y) H := rfl
theorem eqv_slN {neg : Bool} {a : Addr} {n c : Nat} {H : AHeap} : eqvR 2 neg (.slice (some a) n c) (.slice none 0 0) H = some (.bool (neg != false), H) := rfl
theorem eqv_slNN {neg : Bool} {H : AHeap} : eqvR 2 neg (.slice none 0 0) (.slice none 0 0) H = some (.bool (neg != true), H) := rfl
attribute [go_sem] r_eqv eqv_slN eqv_slNN
theorem ACall.tidyG {P : Program} {g : FuncId} {args : List Value} {H : AHeap} {sz n c : Nat} {vs : List Value} {f : Value → Value} (hf : Wraps f) (hc : ∀ v ∈ vs, Closed v)
    (h : ACall P g args H fun v1 H1 => ∃ id, v1 = f (.slice (some ⟨id, 0, none⟩) n c) ∧ Ext H H1 ∧ H.length ≤ id ∧ H1[id]? = some (.cells true sz vs)) :
    ACall P g args H fun v1 H1 => v1 = f (.slice (some ⟨H.length, 0, none⟩) n c) ∧ H1 = H ++ [.cells true sz vs] :=
  h.rename fun v1 H1 hh => by
    obtain ⟨id, rfl, ⟨M, rfl⟩, h1, hx⟩ := hh
    refine ⟨_, H ++ [.cells true sz vs], _, renames_one h1 hx hc, hf _ _ _ _ ?_, rfl, rfl⟩
    simpa using ren_slice (H := H) (id := id)
/-- The first numbers of an object. -/
theorem ints_first {H : AHeap} {id c : Nat} {l r : List Int} {b : Bool} (h : H[id]? = some (.cells b 1 ((l ++ r).map (.int .i64)))) : Ints H l (.slice (some ⟨id, 0, none⟩) l.length c) := by
  refine ⟨by simp, .inr ⟨id, 0, c, rfl, fun _ => ?_⟩⟩
  unfold cellsAt
  rw [h]
  simp only
  rw [if_pos (by simp), List.drop_zero, List.map_append, List.take_append_of_le_length (by simp), List.take_of_length_le (by simp)]
theorem store_cellI {H : AHeap} {id n c i : Nat} {l : List Int} (h : H[id]? = some (.cells true 1 (l.map (.int .i64)))) (hi : i < l.length) (x : Int) :
    storeR 1 (addrOf (.slice (some ⟨id, 0, none⟩) n c) i) (.int .i64 x) H = some (undef, H.set id (.cells true 1 ((l.set i x).map (.int .i64)))) := by
  have e1 : (Value.int .i64 x).cells.toList = [.int .i64 x] := rfl
  have e2 : (Value.int .i64 x).cells.size = 1 := rfl
  have e3 : ([Value.int .i64 x]).all isAtom = true := rfl
  simp only [addrOf, Nat.zero_add, storeR, e1, e2, if_true, storeAt, h, e3, and_true, List.length_map]
  rw [if_pos (by simp; omega), setCells_one _ _ _ (by simpa using hi)]
  simp only [Option.map_some, List.map_set]

def diffErrL (x : List Int) (k : Int) : Int := firstErr [signalErrL x, (if decide (1 ≤ k ∧ k ≤ 4) = true then 0 else 2)]
theorem diffErr_ok {x : List Int} {k : Int} (h : diffErrL x k = 0) : signalErrL x = 0 ∧ 1 ≤ k ∧ k ≤ 4 := by
  unfold diffErrL at h
  by_cases h2 : signalErrL x = 0
  · refine ⟨h2, ?_⟩
    by_cases h3 : 1 ≤ k ∧ k ≤ 4
    · exact h3
    · simp [firstErr, h2, h3] at h
  · simp [firstErr, h2] at h

section
variable {H : AHeap}
theorem clone_c {x : List Int} {a : Addr} {n c : Nat} (hX : Ints H x (.slice (some a) n c)) (hl : x.length ≤ 1000000000) : ACall Go.Proofs.Tryd.prog 120 [.slice (some a) n c] H fun v H' =>
    ∃ id, v = .slice (some ⟨id, 0, none⟩) x.length x.length ∧ Ext H H' ∧ H.length ≤ id ∧ H'[id]? = some (.cells true 1 (x.map (.int .i64))) := by
  (refine a120 ?_; simp only [n120, List.replicate, List.length_cons, List.length_nil, List.cons_append, List.nil_append])
  ((repeat (first | refine q1 ?_ | refine q2 ?_ | refine q3 ?_ | refine q4 ?_ | refine q5 ?_ | refine q6 ?_ | refine q7 ?_ | refine q8 ?_ | refine q9 ?_ | refine qa ?_ | refine qb ?_ | refine qc ?_ | refine qd ?_ | refine qe (by decide) ?_ | refine qf ?_ | refine qg ?_ | ((first | apply aops_all | apply adraw_all); (simp (disch := first | exact List.all_nil | omega | (simp only [go_sem]; done) | (simp only [ln, List.length_map]; omega) | (repeat' first | assumption | exact Ext.refl _ | refine Ext.app ?_ _)) only [go_sem]; rfl)))); (try ((first | apply aops_until | apply adraw_until); (simp (disch := first | exact List.all_nil | omega | (simp only [go_sem]; done) | (simp only [ln, List.length_map]; omega) | (repeat' first | assumption | exact Ext.refl _ | refine Ext.app ?_ _)) only [go_sem]; rfl))))
  refine cond_f rfl ?_
  obtain ⟨s, H', h1, h2, id, rfl, h3, h4⟩ := append_copy (bytes := 8) hX (isAtom_ints x) (roomOk_of (by omega) (by omega))
  ((repeat (first | refine q1 ?_ | refine q2 ?_ | refine q3 ?_ | refine q4 ?_ | refine q5 ?_ | refine q6 ?_ | refine q7 ?_ | refine q8 ?_ | refine q9 ?_ | refine qa ?_ | refine qb ?_ | refine qc ?_ | refine qd ?_ | refine qe (by decide) ?_ | refine qf ?_ | refine qg ?_ | ((first | apply aops_all | apply adraw_all); (simp (disch := first | exact List.all_nil | omega | (simp only [go_sem]; done) | (simp only [ln, List.length_map]; omega) | (repeat' first | assumption | exact Ext.refl _ | refine Ext.app ?_ _)) only [go_sem, h1]; rfl)))); (try ((first | apply aops_until | apply adraw_until); (simp (disch := first | exact List.all_nil | omega | (simp only [go_sem]; done) | (simp only [ln, List.length_map]; omega) | (repeat' first | assumption | exact Ext.refl _ | refine Ext.app ?_ _)) only [go_sem, h1]; rfl))))
  exact fin_1 ⟨id, rfl, h2, h3, h4⟩
set_option maxHeartbeats 1000000 in
theorem differences_ok {x : List Int} {a : Addr} {n c : Nat} {k : Int} (hX : Ints H x (.slice (some a) n c)) (he : diffErrL x k = 0) : ACall Go.Proofs.Tryd.prog 62 [.slice (some a) n c, .int .i64 k] H fun w H' =>
    w = .tuple #[.slice (some ⟨H.length, 0, none⟩) (diffK x k.toNat).length (if (diffK x k.toNat).length = 0 then 1 else (diffK x k.toNat).length), .int .i64 0] ∧ H' = H ++ [.cells true 1 ((diffK x k.toNat ++ junkK x k.toNat).map (.int .i64))] := by
  refine ACall.tidyG (f := fun s => .tuple #[s, .int .i64 0]) (wraps_1 (.int _ _)) (closed_ints _) ?_
  obtain ⟨hs, hk⟩ := diffErr_ok he
  obtain ⟨s1, s2⟩ := signalErr_ok hs
  have hdb := diffK_bound s2
  (refine a62 ?_; simp only [n62, List.replicate, List.length_cons, List.length_nil, List.cons_append, List.nil_append])
  ((repeat (first | refine q1 ?_ | refine q2 ?_ | refine q3 ?_ | refine q4 ?_ | refine q5 ?_ | refine q6 ?_ | refine q7 ?_ | refine q8 ?_ | refine q9 ?_ | refine qa ?_ | refine qb ?_ | refine qc ?_ | refine qd ?_ | refine qe (by decide) ?_ | refine qf ?_ | refine qg ?_ | ((first | apply aops_all | apply adraw_all); (simp (disch := first | exact List.all_nil | omega | (simp only [go_sem]; done) | (simp only [ln, List.length_map]; omega) | (repeat' first | assumption | exact Ext.refl _ | refine Ext.app ?_ _)) only [go_sem]; rfl)))); (try ((first | apply aops_until | apply adraw_until); (simp (disch := first | exact List.all_nil | omega | (simp only [go_sem]; done) | (simp only [ln, List.length_map]; omega) | (repeat' first | assumption | exact Ext.refl _ | refine Ext.app ?_ _)) only [go_sem]; rfl))))
  refine aops_call_to (signalErr_c hX (by omega)) ?_
  ((repeat (first | refine q1 ?_ | refine q2 ?_ | refine q3 ?_ | refine q4 ?_ | refine q5 ?_ | refine q6 ?_ | refine q7 ?_ | refine q8 ?_ | refine q9 ?_ | refine qa ?_ | refine qb ?_ | refine qc ?_ | refine qd ?_ | refine qe (by decide) ?_ | refine qf ?_ | refine qg ?_ | ((first | apply aops_all | apply adraw_all); (simp (disch := first | exact List.all_nil | omega | (simp only [go_sem]; done) | (simp only [ln, List.length_map]; omega) | (repeat' first | assumption | exact Ext.refl _ | refine Ext.app ?_ _)) only [go_sem]; rfl)))); (try ((first | apply aops_until | apply adraw_until); (simp (disch := first | exact List.all_nil | omega | (simp only [go_sem]; done) | (simp only [ln, List.length_map]; omega) | (repeat' first | assumption | exact Ext.refl _ | refine Ext.app ?_ _)) only [go_sem]; rfl))))
  refine aops_call_to (within_c _ _ _) ?_
  ((repeat (first | refine q1 ?_ | refine q2 ?_ | refine q3 ?_ | refine q4 ?_ | refine q5 ?_ | refine q6 ?_ | refine q7 ?_ | refine q8 ?_ | refine q9 ?_ | refine qa ?_ | refine qb ?_ | refine qc ?_ | refine qd ?_ | refine qe (by decide) ?_ | refine qf ?_ | refine qg ?_ | ((first | apply aops_all | apply adraw_all); (simp (disch := first | exact List.all_nil | omega | (simp only [go_sem]; done) | (simp only [ln, List.length_map]; omega) | (repeat' first | assumption | exact Ext.refl _ | refine Ext.app ?_ _)) only [go_sem]; rfl)))); (try ((first | apply aops_until | apply adraw_until); (simp (disch := first | exact List.all_nil | omega | (simp only [go_sem]; done) | (simp only [ln, List.length_map]; omega) | (repeat' first | assumption | exact Ext.refl _ | refine Ext.app ?_ _)) only [go_sem]; rfl))))
  refine aops_call_to (unless_c _ _) ?_
  ((repeat (first | refine q1 ?_ | refine q2 ?_ | refine q3 ?_ | refine q4 ?_ | refine q5 ?_ | refine q6 ?_ | refine q7 ?_ | refine q8 ?_ | refine q9 ?_ | refine qa ?_ | refine qb ?_ | refine qc ?_ | refine qd ?_ | refine qe (by decide) ?_ | refine qf ?_ | refine qg ?_ | ((first | apply aops_all | apply adraw_all); (simp (disch := first | exact List.all_nil | omega | (simp only [go_sem]; done) | (simp only [ln, List.length_map]; omega) | (repeat' first | assumption | exact Ext.refl _ | refine Ext.app ?_ _)) only [go_sem]; rfl)))); (try ((first | apply aops_until | apply adraw_until); (simp (disch := first | exact List.all_nil | omega | (simp only [go_sem]; done) | (simp only [ln, List.length_map]; omega) | (repeat' first | assumption | exact Ext.refl _ | refine Ext.app ?_ _)) only [go_sem]; rfl))))
  refine aops_call_to (first_c (l := [_, _]) (Ints.last (l := [_, _]) 2) (by simp)) ?_
  have e1 : firstErr [signalErrL x, (if decide (1 ≤ k ∧ k ≤ 4) = true then 0 else 2)] = diffErrL x k := rfl
  rw [e1, he]
  have xG := (Ext.refl H).app [AObj.cells true 1 [.int .i64 (signalErrL x), .int .i64 (if decide (1 ≤ k ∧ k ≤ 4) = true then 0 else 2)]]
  generalize (H ++ [AObj.cells true 1 [.int .i64 (signalErrL x), .int .i64 (if decide (1 ≤ k ∧ k ≤ 4) = true then 0 else 2)]] : AHeap) = G at xG
  ((repeat (first | refine q1 ?_ | refine q2 ?_ | refine q3 ?_ | refine q4 ?_ | refine q5 ?_ | refine q6 ?_ | refine q7 ?_ | refine q8 ?_ | refine q9 ?_ | refine qa ?_ | refine qb ?_ | refine qc ?_ | refine qd ?_ | refine qe (by decide) ?_ | refine qf ?_ | refine qg ?_ | ((first | apply aops_all | apply adraw_all); (simp (disch := first | exact List.all_nil | omega | (simp only [go_sem]; done) | (simp only [ln, List.length_map]; omega) | (repeat' first | assumption | exact Ext.refl _ | refine Ext.app ?_ _)) only [go_sem]; rfl)))); (try ((first | apply aops_until | apply adraw_until); (simp (disch := first | exact List.all_nil | omega | (simp only [go_sem]; done) | (simp only [ln, List.length_map]; omega) | (repeat' first | assumption | exact Ext.refl _ | refine Ext.app ?_ _)) only [go_sem]; rfl))))
  refine cond_f rfl ?_
  ((repeat (first | refine q1 ?_ | refine q2 ?_ | refine q3 ?_ | refine q4 ?_ | refine q5 ?_ | refine q6 ?_ | refine q7 ?_ | refine q8 ?_ | refine q9 ?_ | refine qa ?_ | refine qb ?_ | refine qc ?_ | refine qd ?_ | refine qe (by decide) ?_ | refine qf ?_ | refine qg ?_ | ((first | apply aops_all | apply adraw_all); (simp (disch := first | exact List.all_nil | omega | (simp only [go_sem]; done) | (simp only [ln, List.length_map]; omega) | (repeat' first | assumption | exact Ext.refl _ | refine Ext.app ?_ _)) only [go_sem]; rfl)))); (try ((first | apply aops_until | apply adraw_until); (simp (disch := first | exact List.all_nil | omega | (simp only [go_sem]; done) | (simp only [ln, List.length_map]; omega) | (repeat' first | assumption | exact Ext.refl _ | refine Ext.app ?_ _)) only [go_sem]; rfl))))
  refine aops_call ((clone_c (hX.ext xG) (by omega)).mono fun u G1 ⟨id, hu, x1, hid, ho⟩ => ?_)
  subst hu
  have xG1 := xG.trans x1
  have hHid : H.length ≤ id := Nat.le_trans xG.len hid
  clear hid
  ((repeat (first | refine q1 ?_ | refine q2 ?_ | refine q3 ?_ | refine q4 ?_ | refine q5 ?_ | refine q6 ?_ | refine q7 ?_ | refine q8 ?_ | refine q9 ?_ | refine qa ?_ | refine qb ?_ | refine qc ?_ | refine qd ?_ | refine qe (by decide) ?_ | refine qf ?_ | refine qg ?_ | ((first | apply aops_all | apply adraw_all); (simp (disch := first | exact List.all_nil | omega | (simp only [go_sem]; done) | (simp only [ln, List.length_map]; omega) | (repeat' first | assumption | exact Ext.refl _ | refine Ext.app ?_ _)) only [go_sem]; rfl)))); (try ((first | apply aops_until | apply adraw_until); (simp (disch := first | exact List.all_nil | omega | (simp only [go_sem]; done) | (simp only [ln, List.length_map]; omega) | (repeat' first | assumption | exact Ext.refl _ | refine Ext.app ?_ _)) only [go_sem]; rfl))))
  refine awp_loop_n [false, true, false, false, false, true, false, true, false, false, false, false, false, false, false, false, false, false, false, false, false, true, true, false, false, false, false, false, false, false, false, false, false, false, false, false, false, false, false, false, false, false, false, false, false, false, false, false, false, false, false, false] k.toNat (fun j e H' => ∃ cc, e = [junk, .int .i64 k, junk, junk, junk, .int .i64 0, junk, .slice (some ⟨id, 0, none⟩) (diffK x j).length cc, junk, junk, junk, junk, junk, junk, junk, junk, junk, junk, junk, junk, junk, .int .i64 k, .int .i64 j, junk, junk, junk, junk, junk, junk, junk, junk, junk, junk, junk, junk, junk, junk, junk, junk, junk, junk, junk, junk, junk, junk, junk, junk, junk, junk, junk, junk, junk] ∧ Ext H H' ∧ H'[id]? = some (.cells true 1 ((diffK x j ++ junkK x j).map (.int .i64))) ∧ (0 < j → cc = if (diffK x j).length = 0 then 1 else (diffK x j).length)) ?_ ?_
  · exact ⟨x.length, by simp [forget, diffK], xG1, by simpa [diffK, junkK] using ho, by omega⟩
  rintro j e H1 hj ⟨cc, rfl, x2, ho1, hcc⟩
  have hkk : ((k.toNat : Nat) : Int) = k := by omega
  ((repeat (first | refine q1 ?_ | refine q2 ?_ | refine q3 ?_ | refine q4 ?_ | refine q5 ?_ | refine q6 ?_ | refine q7 ?_ | refine q8 ?_ | refine q9 ?_ | refine qa ?_ | refine qb ?_ | refine qc ?_ | refine qd ?_ | refine qe (by decide) ?_ | refine qf ?_ | refine qg ?_ | ((first | apply aops_all | apply adraw_all); (simp (disch := first | exact List.all_nil | omega | (simp only [go_sem]; done) | (simp only [ln, List.length_map]; omega) | (repeat' first | assumption | exact Ext.refl _ | refine Ext.app ?_ _)) only [go_sem]; rfl)))); (try ((first | apply aops_until | apply adraw_until); (simp (disch := first | exact List.all_nil | omega | (simp only [go_sem]; done) | (simp only [ln, List.length_map]; omega) | (repeat' first | assumption | exact Ext.refl _ | refine Ext.app ?_ _)) only [go_sem]; rfl))))
  refine cond_p rfl (fun hlt => ?_) (fun hge => ?_)
  rotate_left 1
  · obtain rfl : j = k.toNat := by omega
    ((repeat (first | refine q1 ?_ | refine q2 ?_ | refine q3 ?_ | refine q4 ?_ | refine q5 ?_ | refine q6 ?_ | refine q7 ?_ | refine q8 ?_ | refine q9 ?_ | refine qa ?_ | refine qb ?_ | refine qc ?_ | refine qd ?_ | refine qe (by decide) ?_ | refine qf ?_ | refine qg ?_ | ((first | apply aops_all | apply adraw_all); (simp (disch := first | exact List.all_nil | omega | (simp only [go_sem]; done) | (simp only [ln, List.length_map]; omega) | (repeat' first | assumption | exact Ext.refl _ | refine Ext.app ?_ _)) only [go_sem]; rfl)))); (try ((first | apply aops_until | apply adraw_until); (simp (disch := first | exact List.all_nil | omega | (simp only [go_sem]; done) | (simp only [ln, List.length_map]; omega) | (repeat' first | assumption | exact Ext.refl _ | refine Ext.app ?_ _)) only [go_sem]; rfl))))
    exact fin_2 ⟨id, by rw [← hcc (by omega)]; rfl, x2, hHid, ho1⟩
  have hlen := diffK_len x j
  have hb := hdb j (by omega)
  have hsucc : diffK x (j + 1) = diffL (diffK x j) := rfl
  have hjunk : junkK x (j + 1) = (diffK x j).drop ((diffK x j).length - 1) ++ junkK x j := rfl
  generalize diffK x j = l at *
  generalize junkK x j = jk at *
  ((repeat (first | refine q1 ?_ | refine q2 ?_ | refine q3 ?_ | refine q4 ?_ | refine q5 ?_ | refine q6 ?_ | refine q7 ?_ | refine q8 ?_ | refine q9 ?_ | refine qa ?_ | refine qb ?_ | refine qc ?_ | refine qd ?_ | refine qe (by decide) ?_ | refine qf ?_ | refine qg ?_ | ((first | apply aops_all | apply adraw_all); (simp (disch := first | exact List.all_nil | omega | (simp only [go_sem]; done) | (simp only [ln, List.length_map]; omega) | (repeat' first | assumption | exact Ext.refl _ | refine Ext.app ?_ _)) only [go_sem]; rfl)))); (try ((first | apply aops_until | apply adraw_until); (simp (disch := first | exact List.all_nil | omega | (simp only [go_sem]; done) | (simp only [ln, List.length_map]; omega) | (repeat' first | assumption | exact Ext.refl _ | refine Ext.app ?_ _)) only [go_sem]; rfl))))
  refine awp_loop_n [false, true, false, false, false, true, false, true, true, false, false, false, false, false, false, false, false, false, false, false, false, true, true, false, false, false, false, false, false, false, false, false, false, false, false, false, false, false, false, false, false, false, false, false, false, false, false, false, false, false, false, false] (l.length - 1) (fun i e H' => e = [junk, .int .i64 k, junk, junk, junk, .int .i64 0, junk, .slice (some ⟨id, 0, none⟩) l.length cc, .int .i64 (i + 1 : Nat), junk, junk, junk, junk, junk, junk, junk, junk, junk, junk, junk, junk, .int .i64 k, .int .i64 j, junk, junk, junk, junk, junk, junk, junk, junk, junk, junk, junk, junk, junk, junk, junk, junk, junk, junk, junk, junk, junk, junk, junk, junk, junk, junk, junk, junk, junk] ∧ Ext H H' ∧ H'[id]? = some (.cells true 1 ((midD l i ++ jk).map (.int .i64)))) ?_ ?_
  · exact ⟨by simp [forget], x2, by rw [midD_zero]; exact ho1⟩
  rintro i e H2 hi ⟨rfl, x3, ho2⟩
  ((repeat (first | refine q1 ?_ | refine q2 ?_ | refine q3 ?_ | refine q4 ?_ | refine q5 ?_ | refine q6 ?_ | refine q7 ?_ | refine q8 ?_ | refine q9 ?_ | refine qa ?_ | refine qb ?_ | refine qc ?_ | refine qd ?_ | refine qe (by decide) ?_ | refine qf ?_ | refine qg ?_ | ((first | apply aops_all | apply adraw_all); (simp (disch := first | exact List.all_nil | omega | (simp only [go_sem]; done) | (simp only [ln, List.length_map]; omega) | (repeat' first | assumption | exact Ext.refl _ | refine Ext.app ?_ _)) only [go_sem]; rfl)))); (try ((first | apply aops_until | apply adraw_until); (simp (disch := first | exact List.all_nil | omega | (simp only [go_sem]; done) | (simp only [ln, List.length_map]; omega) | (repeat' first | assumption | exact Ext.refl _ | refine Ext.app ?_ _)) only [go_sem]; rfl))))
  refine cond_p rfl (fun hlt2 => ?_) (fun hge2 => ?_)
  · have hi' : i + 1 < l.length := by omega
    have hml : (midD l i).length = l.length := midD_len (by omega)
    have hV : Ints H2 (midD l i) (.slice (some ⟨id, 0, none⟩) l.length cc) := by
      have := ints_first (c := cc) ho2
      rwa [hml] at this
    have hb1 := hb (i + 1)
    have hb0 := hb i
    have m1 := midD_get (l := l) (i := i) (j := i + 1) (by omega) (by omega)
    have m0 := midD_get (l := l) (i := i) (j := i) (by omega) (by omega)
    have t1 : ((i + 1 : Nat) : Int).toNat = i + 1 := by omega
    have t0 : (((i + 1 : Nat) : Int) - 1).toNat = i := by omega
    have hml' : ((midD l i).length : Int) = l.length := by omega
    have hst := store_cellI (n := l.length) (c := cc) (i := i) ho2 (by simp; omega) (l.getD (i + 1) 0 - l.getD i 0)
    rw [List.set_append_left _ _ (by omega), midD_step hi'] at hst
    ((repeat (first | refine q1 ?_ | refine q2 ?_ | refine q3 ?_ | refine q4 ?_ | refine q5 ?_ | refine q6 ?_ | refine q7 ?_ | refine q8 ?_ | refine q9 ?_ | refine qa ?_ | refine qb ?_ | refine qc ?_ | refine qd ?_ | refine qe (by decide) ?_ | refine qf ?_ | refine qg ?_ | ((first | apply aops_all | apply adraw_all); (simp (disch := first | exact List.all_nil | omega | (simp only [go_sem]; done) | (simp only [ln, List.length_map]; omega) | (repeat' first | assumption | exact Ext.refl _ | refine Ext.app ?_ _)) only [go_sem, hV.len, hV.idx, hV.load, t0, m1, m0, hst]; rfl)))); (try ((first | apply aops_until | apply adraw_until); (simp (disch := first | exact List.all_nil | omega | (simp only [go_sem]; done) | (simp only [ln, List.length_map]; omega) | (repeat' first | assumption | exact Ext.refl _ | refine Ext.app ?_ _)) only [go_sem, hV.len, hV.idx, hV.load, t0, m1, m0, hst]; rfl))))
    refine ⟨by omega, by simp [forget], x3.set hHid _, ?_⟩
    exact get_set_self ho2
  · have hend : i = l.length - 1 := by omega
    subst hend
    rw [midD_end] at ho2
    have hV : Sl H2 1 l.length ((diffL l ++ l.drop (l.length - 1)).map (.int .i64)) (.slice (some ⟨id, 0, none⟩) l.length cc) := by
      have h1 : (diffL l ++ l.drop (l.length - 1)).length = l.length := by rw [List.length_append, diffL_len, List.length_drop]; omega
      have := ints_first (c := cc) ho2
      unfold Ints at this
      rwa [h1] at this
    have hto := fun H' => Sl.to hV (H' := H') (m := max 0 ((l.length : Int) - 1)) (k := .i64) (by omega) (by omega)
    have e1 : (max 0 ((l.length : Int) - 1)).toNat = (diffL l).length := by rw [diffL_len]; omega
    rw [e1] at hto
    ((repeat (first | refine q1 ?_ | refine q2 ?_ | refine q3 ?_ | refine q4 ?_ | refine q5 ?_ | refine q6 ?_ | refine q7 ?_ | refine q8 ?_ | refine q9 ?_ | refine qa ?_ | refine qb ?_ | refine qc ?_ | refine qd ?_ | refine qe (by decide) ?_ | refine qf ?_ | refine qg ?_ | ((first | apply aops_all | apply adraw_all); (simp (disch := first | exact List.all_nil | omega | (simp only [go_sem]; done) | (simp only [ln, List.length_map]; omega) | (repeat' first | assumption | exact Ext.refl _ | refine Ext.app ?_ _)) only [go_sem, hto]; rfl)))); (try ((first | apply aops_until | apply adraw_until); (simp (disch := first | exact List.all_nil | omega | (simp only [go_sem]; done) | (simp only [ln, List.length_map]; omega) | (repeat' first | assumption | exact Ext.refl _ | refine Ext.app ?_ _)) only [go_sem, hto]; rfl))))
    refine ⟨by omega, if (diffL l).length = 0 then 1 else (diffL l).length, by rw [hsucc]; simp [forget, toV], x3, ?_, fun _ => by rw [hsucc]⟩
    rw [hsucc, hjunk, ← List.append_assoc]
    exact ho2

end
end Go.Lq

namespace Go.Lq
open Go
open Go.Proofs

theorem sgI_neg {n : Int} (h : n < 0) : sgI n = -1 := by unfold sgI; rw [if_pos h]
theorem sgI_pos {n : Int} (h : 0 < n) : sgI n = 1 := by unfold sgI; rw [if_neg (by omega), if_pos h]
theorem sgI_zero {n : Int} (h : n = 0) : sgI n = 0 := by subst h; rfl
theorem lt_of_floor {n d m k : Int} (hd : 0 < d) (hk : 0 < k) (h : n / d < m / k) : n * k - m * d < 0 := by
  have h1 := Int.lt_ediv_add_one_mul_self n hd
  have h2 := Int.mul_le_mul_of_nonneg_right (show n / d + 1 ≤ m / k by omega) (Int.le_of_lt hd)
  have h3 := Int.mul_lt_mul_of_pos_right (show n < m / k * d by omega) hk
  have h4 := Int.mul_le_mul_of_nonneg_right (Int.ediv_mul_le m (show k ≠ 0 by omega)) (Int.le_of_lt hd)
  have h5 : m / k * d * k = m / k * k * d := by ac_rfl
  omega
theorem same_floor {n d m k : Int} (h : n / d = m / k) : n * k - m * d = n % d * k - m % k * d := by
  have h1 := Int.mul_ediv_add_emod n d
  have h2 := Int.mul_ediv_add_emod m k
  have e1 : n * k = d * (n / d) * k + n % d * k := by rw [← Int.add_mul, h1]
  have e2 : m * d = k * (m / k) * d + m % k * d := by rw [← Int.add_mul, h2]
  have e3 : d * (n / d) * k = k * (m / k) * d := by rw [h]; ac_rfl
  omega

section
variable {H : AHeap}
set_option maxHeartbeats 1000000 in
theorem compare_c {n d m k : Int} (hn : 0 ≤ n ∧ n ≤ 1000000000) (hd : 0 < d ∧ d ≤ 1000000000) (hm : 0 ≤ m ∧ m ≤ 1000000000) (hk : 0 < k ∧ k ≤ 1000000000) :
    ACall Go.Proofs.Tryd.prog 66 [.int .i64 n, .int .i64 d, .int .i64 m, .int .i64 k] H fun v H' => v = .int .i64 (sgI (n * k - m * d)) ∧ H' = H := by
  (refine a66 ?_; simp only [n66, List.replicate, List.length_cons, List.length_nil, List.cons_append, List.nil_append])
  ((repeat (first | refine Go.Lq.q1 ?_ | refine Go.Lq.q2 ?_ | refine Go.Lq.q3 ?_ | refine Go.Lq.q4 ?_ | refine Go.Lq.q5 ?_ | refine Go.Lq.q6 ?_ | refine Go.Lq.q7 ?_ | refine Go.Lq.q8 ?_ | refine Go.Lq.q9 ?_ | refine Go.Lq.qa ?_ | refine Go.Lq.qb ?_ | refine Go.Lq.qc ?_ | refine Go.Lq.qd ?_ | refine Go.Lq.qe (by decide) ?_ | refine Go.Lq.qf ?_ | refine Go.Lq.qg ?_ | ((first | apply aops_all | apply adraw_all); (simp (disch := first | exact List.all_nil | omega | (simp only [go_sem]; done) | (simp only [ln, List.length_map]; omega) | (repeat' first | assumption | exact Ext.refl _ | refine Ext.app ?_ _)) only [go_sem]; rfl)))); (try ((first | apply aops_until | apply adraw_until); (simp (disch := first | exact List.all_nil | omega | (simp only [go_sem]; done) | (simp only [ln, List.length_map]; omega) | (repeat' first | assumption | exact Ext.refl _ | refine Ext.app ?_ _)) only [go_sem]; rfl))))
  refine awp_loop [true, true, true, true, false, false, false, false, false, false, false, false, false, false, false, false, false, false, false, false, false, false, false, false, false, false, false, false, false, false, false, false, false, false, false, false, false, false, false, false, false, false, false, false, false, false, false] (fun r e H' => H' = H ∧ ∃ a b c f : Int, r = (b + f).toNat ∧ sgI (a * f - c * b) = sgI (n * k - m * d) ∧ (0 ≤ a ∧ a ≤ 1000000000) ∧ (0 < b ∧ b ≤ 1000000000) ∧ (0 ≤ c ∧ c ≤ 1000000000) ∧ (0 < f ∧ f ≤ 1000000000) ∧ e = [.int .i64 a, .int .i64 b, .int .i64 c, .int .i64 f, junk, junk, junk, junk, junk, junk, junk, junk, junk, junk, junk, junk, junk, junk, junk, junk, junk, junk, junk, junk, junk, junk, junk, junk, junk, junk, junk, junk, junk, junk, junk, junk, junk, junk, junk, junk, junk, junk, junk, junk, junk, junk, junk]) (d + k).toNat ?_ ?_
  · exact ⟨rfl, n, d, m, k, rfl, rfl, hn, hd, hm, hk, rfl⟩
  rintro r e H' ⟨rfl, a, b, c, f, rfl, hg, ha, hb, hc, hf, rfl⟩
  have qa := ediv_bound (n := a) (b := b) (m := 1000000000) hb.1 ⟨by omega, by omega⟩
  have qc := ediv_bound (n := c) (b := f) (m := 1000000000) hf.1 ⟨by omega, by omega⟩
  have ea : a / b * b = a - a % b := by have := Int.mul_ediv_add_emod a b; rw [Int.mul_comm] at this; omega
  have ec : c / f * f = c - c % f := by have := Int.mul_ediv_add_emod c f; rw [Int.mul_comm] at this; omega
  have ea' : a - a / b * b = a % b := by omega
  have ec' : c - c / f * f = c % f := by omega
  have ra := Int.emod_nonneg a (show b ≠ 0 by omega)
  have rc := Int.emod_nonneg c (show f ≠ 0 by omega)
  have la := Int.emod_lt_of_pos a hb.1
  have lc := Int.emod_lt_of_pos c hf.1
  ((repeat (first | refine Go.Lq.q1 ?_ | refine Go.Lq.q2 ?_ | refine Go.Lq.q3 ?_ | refine Go.Lq.q4 ?_ | refine Go.Lq.q5 ?_ | refine Go.Lq.q6 ?_ | refine Go.Lq.q7 ?_ | refine Go.Lq.q8 ?_ | refine Go.Lq.q9 ?_ | refine Go.Lq.qa ?_ | refine Go.Lq.qb ?_ | refine Go.Lq.qc ?_ | refine Go.Lq.qd ?_ | refine Go.Lq.qe (by decide) ?_ | refine Go.Lq.qf ?_ | refine Go.Lq.qg ?_ | ((first | apply aops_all | apply adraw_all); (simp (disch := first | exact List.all_nil | omega | (simp only [go_sem]; done) | (simp only [ln, List.length_map]; omega) | (repeat' first | assumption | exact Ext.refl _ | refine Ext.app ?_ _)) only [go_sem]; rfl)))); (try ((first | apply aops_until | apply adraw_until); (simp (disch := first | exact List.all_nil | omega | (simp only [go_sem]; done) | (simp only [ln, List.length_map]; omega) | (repeat' first | assumption | exact Ext.refl _ | refine Ext.app ?_ _)) only [go_sem]; rfl))))
  refine aops_call_to (bfloor_c _ _ (by omega) (by omega)) ?_
  ((repeat (first | refine Go.Lq.q1 ?_ | refine Go.Lq.q2 ?_ | refine Go.Lq.q3 ?_ | refine Go.Lq.q4 ?_ | refine Go.Lq.q5 ?_ | refine Go.Lq.q6 ?_ | refine Go.Lq.q7 ?_ | refine Go.Lq.q8 ?_ | refine Go.Lq.q9 ?_ | refine Go.Lq.qa ?_ | refine Go.Lq.qb ?_ | refine Go.Lq.qc ?_ | refine Go.Lq.qd ?_ | refine Go.Lq.qe (by decide) ?_ | refine Go.Lq.qf ?_ | refine Go.Lq.qg ?_ | ((first | apply aops_all | apply adraw_all); (simp (disch := first | exact List.all_nil | omega | (simp only [go_sem]; done) | (simp only [ln, List.length_map]; omega) | (repeat' first | assumption | exact Ext.refl _ | refine Ext.app ?_ _)) only [go_sem]; rfl)))); (try ((first | apply aops_until | apply adraw_until); (simp (disch := first | exact List.all_nil | omega | (simp only [go_sem]; done) | (simp only [ln, List.length_map]; omega) | (repeat' first | assumption | exact Ext.refl _ | refine Ext.app ?_ _)) only [go_sem]; rfl))))
  refine aops_call_to (bfloor_c _ _ (by omega) (by omega)) ?_
  ((repeat (first | refine Go.Lq.q1 ?_ | refine Go.Lq.q2 ?_ | refine Go.Lq.q3 ?_ | refine Go.Lq.q4 ?_ | refine Go.Lq.q5 ?_ | refine Go.Lq.q6 ?_ | refine Go.Lq.q7 ?_ | refine Go.Lq.q8 ?_ | refine Go.Lq.q9 ?_ | refine Go.Lq.qa ?_ | refine Go.Lq.qb ?_ | refine Go.Lq.qc ?_ | refine Go.Lq.qd ?_ | refine Go.Lq.qe (by decide) ?_ | refine Go.Lq.qf ?_ | refine Go.Lq.qg ?_ | ((first | apply aops_all | apply adraw_all); (simp (disch := first | exact List.all_nil | omega | (simp only [go_sem]; done) | (simp only [ln, List.length_map]; omega) | (repeat' first | assumption | exact Ext.refl _ | refine Ext.app ?_ _)) only [go_sem]; rfl)))); (try ((first | apply aops_until | apply adraw_until); (simp (disch := first | exact List.all_nil | omega | (simp only [go_sem]; done) | (simp only [ln, List.length_map]; omega) | (repeat' first | assumption | exact Ext.refl _ | refine Ext.app ?_ _)) only [go_sem]; rfl))))
  refine cond_p rfl (fun h1 => ?_) (fun h1 => ?_)
  · ((repeat (first | refine Go.Lq.q1 ?_ | refine Go.Lq.q2 ?_ | refine Go.Lq.q3 ?_ | refine Go.Lq.q4 ?_ | refine Go.Lq.q5 ?_ | refine Go.Lq.q6 ?_ | refine Go.Lq.q7 ?_ | refine Go.Lq.q8 ?_ | refine Go.Lq.q9 ?_ | refine Go.Lq.qa ?_ | refine Go.Lq.qb ?_ | refine Go.Lq.qc ?_ | refine Go.Lq.qd ?_ | refine Go.Lq.qe (by decide) ?_ | refine Go.Lq.qf ?_ | refine Go.Lq.qg ?_ | ((first | apply aops_all | apply adraw_all); (simp (disch := first | exact List.all_nil | omega | (simp only [go_sem]; done) | (simp only [ln, List.length_map]; omega) | (repeat' first | assumption | exact Ext.refl _ | refine Ext.app ?_ _)) only [go_sem]; rfl)))); (try ((first | apply aops_until | apply adraw_until); (simp (disch := first | exact List.all_nil | omega | (simp only [go_sem]; done) | (simp only [ln, List.length_map]; omega) | (repeat' first | assumption | exact Ext.refl _ | refine Ext.app ?_ _)) only [go_sem]; rfl))))
    exact fin_1 ⟨by rw [← hg, sgI_neg (lt_of_floor hb.1 hf.1 h1)]; rfl, rfl⟩
  ((repeat (first | refine Go.Lq.q1 ?_ | refine Go.Lq.q2 ?_ | refine Go.Lq.q3 ?_ | refine Go.Lq.q4 ?_ | refine Go.Lq.q5 ?_ | refine Go.Lq.q6 ?_ | refine Go.Lq.q7 ?_ | refine Go.Lq.q8 ?_ | refine Go.Lq.q9 ?_ | refine Go.Lq.qa ?_ | refine Go.Lq.qb ?_ | refine Go.Lq.qc ?_ | refine Go.Lq.qd ?_ | refine Go.Lq.qe (by decide) ?_ | refine Go.Lq.qf ?_ | refine Go.Lq.qg ?_ | ((first | apply aops_all | apply adraw_all); (simp (disch := first | exact List.all_nil | omega | (simp only [go_sem]; done) | (simp only [ln, List.length_map]; omega) | (repeat' first | assumption | exact Ext.refl _ | refine Ext.app ?_ _)) only [go_sem]; rfl)))); (try ((first | apply aops_until | apply adraw_until); (simp (disch := first | exact List.all_nil | omega | (simp only [go_sem]; done) | (simp only [ln, List.length_map]; omega) | (repeat' first | assumption | exact Ext.refl _ | refine Ext.app ?_ _)) only [go_sem]; rfl))))
  refine cond_p rfl (fun h2 => ?_) (fun h2 => ?_)
  · ((repeat (first | refine Go.Lq.q1 ?_ | refine Go.Lq.q2 ?_ | refine Go.Lq.q3 ?_ | refine Go.Lq.q4 ?_ | refine Go.Lq.q5 ?_ | refine Go.Lq.q6 ?_ | refine Go.Lq.q7 ?_ | refine Go.Lq.q8 ?_ | refine Go.Lq.q9 ?_ | refine Go.Lq.qa ?_ | refine Go.Lq.qb ?_ | refine Go.Lq.qc ?_ | refine Go.Lq.qd ?_ | refine Go.Lq.qe (by decide) ?_ | refine Go.Lq.qf ?_ | refine Go.Lq.qg ?_ | ((first | apply aops_all | apply adraw_all); (simp (disch := first | exact List.all_nil | omega | (simp only [go_sem]; done) | (simp only [ln, List.length_map]; omega) | (repeat' first | assumption | exact Ext.refl _ | refine Ext.app ?_ _)) only [go_sem]; rfl)))); (try ((first | apply aops_until | apply adraw_until); (simp (disch := first | exact List.all_nil | omega | (simp only [go_sem]; done) | (simp only [ln, List.length_map]; omega) | (repeat' first | assumption | exact Ext.refl _ | refine Ext.app ?_ _)) only [go_sem]; rfl))))
    have := lt_of_floor hf.1 hb.1 h2
    exact fin_1 ⟨by rw [← hg, sgI_pos (by omega)]; rfl, rfl⟩
  have hs := same_floor (n := a) (d := b) (m := c) (k := f) (by omega)
  rw [hs] at hg
  by_cases za : a % b = 0
  · by_cases zc : c % f = 0
    · ((repeat (first | refine Go.Lq.q1 ?_ | refine Go.Lq.q2 ?_ | refine Go.Lq.q3 ?_ | refine Go.Lq.q4 ?_ | refine Go.Lq.q5 ?_ | refine Go.Lq.q6 ?_ | refine Go.Lq.q7 ?_ | refine Go.Lq.q8 ?_ | refine Go.Lq.q9 ?_ | refine Go.Lq.qa ?_ | refine Go.Lq.qb ?_ | refine Go.Lq.qc ?_ | refine Go.Lq.qd ?_ | refine Go.Lq.qe (by decide) ?_ | refine Go.Lq.qf ?_ | refine Go.Lq.qg ?_ | ((first | apply aops_all | apply adraw_all); (simp (disch := first | exact List.all_nil | omega | (simp only [go_sem]; done) | (simp only [ln, List.length_map]; omega) | (repeat' first | assumption | exact Ext.refl _ | refine Ext.app ?_ _)) only [go_sem, ea', ec', za, zc]; rfl)))); (try ((first | apply aops_until | apply adraw_until); (simp (disch := first | exact List.all_nil | omega | (simp only [go_sem]; done) | (simp only [ln, List.length_map]; omega) | (repeat' first | assumption | exact Ext.refl _ | refine Ext.app ?_ _)) only [go_sem, ea', ec', za, zc]; rfl))))
      refine cond_t rfl ?_
      ((repeat (first | refine Go.Lq.q1 ?_ | refine Go.Lq.q2 ?_ | refine Go.Lq.q3 ?_ | refine Go.Lq.q4 ?_ | refine Go.Lq.q5 ?_ | refine Go.Lq.q6 ?_ | refine Go.Lq.q7 ?_ | refine Go.Lq.q8 ?_ | refine Go.Lq.q9 ?_ | refine Go.Lq.qa ?_ | refine Go.Lq.qb ?_ | refine Go.Lq.qc ?_ | refine Go.Lq.qd ?_ | refine Go.Lq.qe (by decide) ?_ | refine Go.Lq.qf ?_ | refine Go.Lq.qg ?_ | ((first | apply aops_all | apply adraw_all); (simp (disch := first | exact List.all_nil | omega | (simp only [go_sem]; done) | (simp only [ln, List.length_map]; omega) | (repeat' first | assumption | exact Ext.refl _ | refine Ext.app ?_ _)) only [go_sem]; rfl)))); (try ((first | apply aops_until | apply adraw_until); (simp (disch := first | exact List.all_nil | omega | (simp only [go_sem]; done) | (simp only [ln, List.length_map]; omega) | (repeat' first | assumption | exact Ext.refl _ | refine Ext.app ?_ _)) only [go_sem]; rfl))))
      exact fin_1 ⟨by rw [← hg, sgI_zero (by rw [za, zc]; simp)]; rfl, rfl⟩
    · ((repeat (first | refine Go.Lq.q1 ?_ | refine Go.Lq.q2 ?_ | refine Go.Lq.q3 ?_ | refine Go.Lq.q4 ?_ | refine Go.Lq.q5 ?_ | refine Go.Lq.q6 ?_ | refine Go.Lq.q7 ?_ | refine Go.Lq.q8 ?_ | refine Go.Lq.q9 ?_ | refine Go.Lq.qa ?_ | refine Go.Lq.qb ?_ | refine Go.Lq.qc ?_ | refine Go.Lq.qd ?_ | refine Go.Lq.qe (by decide) ?_ | refine Go.Lq.qf ?_ | refine Go.Lq.qg ?_ | ((first | apply aops_all | apply adraw_all); (simp (disch := first | exact List.all_nil | omega | (simp only [go_sem]; done) | (simp only [ln, List.length_map]; omega) | (repeat' first | assumption | exact Ext.refl _ | refine Ext.app ?_ _)) only [go_sem, ea', ec', dec_t za, dec_f zc]; rfl)))); (try ((first | apply aops_until | apply adraw_until); (simp (disch := first | exact List.all_nil | omega | (simp only [go_sem]; done) | (simp only [ln, List.length_map]; omega) | (repeat' first | assumption | exact Ext.refl _ | refine Ext.app ?_ _)) only [go_sem, ea', ec', dec_t za, dec_f zc]; rfl))))
      refine cond_f rfl ?_
      ((repeat (first | refine Go.Lq.q1 ?_ | refine Go.Lq.q2 ?_ | refine Go.Lq.q3 ?_ | refine Go.Lq.q4 ?_ | refine Go.Lq.q5 ?_ | refine Go.Lq.q6 ?_ | refine Go.Lq.q7 ?_ | refine Go.Lq.q8 ?_ | refine Go.Lq.q9 ?_ | refine Go.Lq.qa ?_ | refine Go.Lq.qb ?_ | refine Go.Lq.qc ?_ | refine Go.Lq.qd ?_ | refine Go.Lq.qe (by decide) ?_ | refine Go.Lq.qf ?_ | refine Go.Lq.qg ?_ | ((first | apply aops_all | apply adraw_all); (simp (disch := first | exact List.all_nil | omega | (simp only [go_sem]; done) | (simp only [ln, List.length_map]; omega) | (repeat' first | assumption | exact Ext.refl _ | refine Ext.app ?_ _)) only [go_sem, dec_t za]; rfl)))); (try ((first | apply aops_until | apply adraw_until); (simp (disch := first | exact List.all_nil | omega | (simp only [go_sem]; done) | (simp only [ln, List.length_map]; omega) | (repeat' first | assumption | exact Ext.refl _ | refine Ext.app ?_ _)) only [go_sem, dec_t za]; rfl))))
      refine cond_t rfl ?_
      ((repeat (first | refine Go.Lq.q1 ?_ | refine Go.Lq.q2 ?_ | refine Go.Lq.q3 ?_ | refine Go.Lq.q4 ?_ | refine Go.Lq.q5 ?_ | refine Go.Lq.q6 ?_ | refine Go.Lq.q7 ?_ | refine Go.Lq.q8 ?_ | refine Go.Lq.q9 ?_ | refine Go.Lq.qa ?_ | refine Go.Lq.qb ?_ | refine Go.Lq.qc ?_ | refine Go.Lq.qd ?_ | refine Go.Lq.qe (by decide) ?_ | refine Go.Lq.qf ?_ | refine Go.Lq.qg ?_ | ((first | apply aops_all | apply adraw_all); (simp (disch := first | exact List.all_nil | omega | (simp only [go_sem]; done) | (simp only [ln, List.length_map]; omega) | (repeat' first | assumption | exact Ext.refl _ | refine Ext.app ?_ _)) only [go_sem]; rfl)))); (try ((first | apply aops_until | apply adraw_until); (simp (disch := first | exact List.all_nil | omega | (simp only [go_sem]; done) | (simp only [ln, List.length_map]; omega) | (repeat' first | assumption | exact Ext.refl _ | refine Ext.app ?_ _)) only [go_sem]; rfl))))
      have : 0 < c % f * b := Int.mul_pos (by omega) hb.1
      exact fin_1 ⟨by rw [← hg, sgI_neg (by rw [za]; omega)]; rfl, rfl⟩
  · ((repeat (first | refine Go.Lq.q1 ?_ | refine Go.Lq.q2 ?_ | refine Go.Lq.q3 ?_ | refine Go.Lq.q4 ?_ | refine Go.Lq.q5 ?_ | refine Go.Lq.q6 ?_ | refine Go.Lq.q7 ?_ | refine Go.Lq.q8 ?_ | refine Go.Lq.q9 ?_ | refine Go.Lq.qa ?_ | refine Go.Lq.qb ?_ | refine Go.Lq.qc ?_ | refine Go.Lq.qd ?_ | refine Go.Lq.qe (by decide) ?_ | refine Go.Lq.qf ?_ | refine Go.Lq.qg ?_ | ((first | apply aops_all | apply adraw_all); (simp (disch := first | exact List.all_nil | omega | (simp only [go_sem]; done) | (simp only [ln, List.length_map]; omega) | (repeat' first | assumption | exact Ext.refl _ | refine Ext.app ?_ _)) only [go_sem, ea', ec', dec_f za]; rfl)))); (try ((first | apply aops_until | apply adraw_until); (simp (disch := first | exact List.all_nil | omega | (simp only [go_sem]; done) | (simp only [ln, List.length_map]; omega) | (repeat' first | assumption | exact Ext.refl _ | refine Ext.app ?_ _)) only [go_sem, ea', ec', dec_f za]; rfl))))
    refine cond_f rfl ?_
    ((repeat (first | refine Go.Lq.q1 ?_ | refine Go.Lq.q2 ?_ | refine Go.Lq.q3 ?_ | refine Go.Lq.q4 ?_ | refine Go.Lq.q5 ?_ | refine Go.Lq.q6 ?_ | refine Go.Lq.q7 ?_ | refine Go.Lq.q8 ?_ | refine Go.Lq.q9 ?_ | refine Go.Lq.qa ?_ | refine Go.Lq.qb ?_ | refine Go.Lq.qc ?_ | refine Go.Lq.qd ?_ | refine Go.Lq.qe (by decide) ?_ | refine Go.Lq.qf ?_ | refine Go.Lq.qg ?_ | ((first | apply aops_all | apply adraw_all); (simp (disch := first | exact List.all_nil | omega | (simp only [go_sem]; done) | (simp only [ln, List.length_map]; omega) | (repeat' first | assumption | exact Ext.refl _ | refine Ext.app ?_ _)) only [go_sem, dec_f za]; rfl)))); (try ((first | apply aops_until | apply adraw_until); (simp (disch := first | exact List.all_nil | omega | (simp only [go_sem]; done) | (simp only [ln, List.length_map]; omega) | (repeat' first | assumption | exact Ext.refl _ | refine Ext.app ?_ _)) only [go_sem, dec_f za]; rfl))))
    refine cond_f rfl ?_
    by_cases zc : c % f = 0
    · ((repeat (first | refine Go.Lq.q1 ?_ | refine Go.Lq.q2 ?_ | refine Go.Lq.q3 ?_ | refine Go.Lq.q4 ?_ | refine Go.Lq.q5 ?_ | refine Go.Lq.q6 ?_ | refine Go.Lq.q7 ?_ | refine Go.Lq.q8 ?_ | refine Go.Lq.q9 ?_ | refine Go.Lq.qa ?_ | refine Go.Lq.qb ?_ | refine Go.Lq.qc ?_ | refine Go.Lq.qd ?_ | refine Go.Lq.qe (by decide) ?_ | refine Go.Lq.qf ?_ | refine Go.Lq.qg ?_ | ((first | apply aops_all | apply adraw_all); (simp (disch := first | exact List.all_nil | omega | (simp only [go_sem]; done) | (simp only [ln, List.length_map]; omega) | (repeat' first | assumption | exact Ext.refl _ | refine Ext.app ?_ _)) only [go_sem, dec_t zc]; rfl)))); (try ((first | apply aops_until | apply adraw_until); (simp (disch := first | exact List.all_nil | omega | (simp only [go_sem]; done) | (simp only [ln, List.length_map]; omega) | (repeat' first | assumption | exact Ext.refl _ | refine Ext.app ?_ _)) only [go_sem, dec_t zc]; rfl))))
      refine cond_t rfl ?_
      ((repeat (first | refine Go.Lq.q1 ?_ | refine Go.Lq.q2 ?_ | refine Go.Lq.q3 ?_ | refine Go.Lq.q4 ?_ | refine Go.Lq.q5 ?_ | refine Go.Lq.q6 ?_ | refine Go.Lq.q7 ?_ | refine Go.Lq.q8 ?_ | refine Go.Lq.q9 ?_ | refine Go.Lq.qa ?_ | refine Go.Lq.qb ?_ | refine Go.Lq.qc ?_ | refine Go.Lq.qd ?_ | refine Go.Lq.qe (by decide) ?_ | refine Go.Lq.qf ?_ | refine Go.Lq.qg ?_ | ((first | apply aops_all | apply adraw_all); (simp (disch := first | exact List.all_nil | omega | (simp only [go_sem]; done) | (simp only [ln, List.length_map]; omega) | (repeat' first | assumption | exact Ext.refl _ | refine Ext.app ?_ _)) only [go_sem]; rfl)))); (try ((first | apply aops_until | apply adraw_until); (simp (disch := first | exact List.all_nil | omega | (simp only [go_sem]; done) | (simp only [ln, List.length_map]; omega) | (repeat' first | assumption | exact Ext.refl _ | refine Ext.app ?_ _)) only [go_sem]; rfl))))
      have : 0 < a % b * f := Int.mul_pos (by omega) hf.1
      exact fin_1 ⟨by rw [← hg, sgI_pos (by rw [zc]; omega)]; rfl, rfl⟩
    · ((repeat (first | refine Go.Lq.q1 ?_ | refine Go.Lq.q2 ?_ | refine Go.Lq.q3 ?_ | refine Go.Lq.q4 ?_ | refine Go.Lq.q5 ?_ | refine Go.Lq.q6 ?_ | refine Go.Lq.q7 ?_ | refine Go.Lq.q8 ?_ | refine Go.Lq.q9 ?_ | refine Go.Lq.qa ?_ | refine Go.Lq.qb ?_ | refine Go.Lq.qc ?_ | refine Go.Lq.qd ?_ | refine Go.Lq.qe (by decide) ?_ | refine Go.Lq.qf ?_ | refine Go.Lq.qg ?_ | ((first | apply aops_all | apply adraw_all); (simp (disch := first | exact List.all_nil | omega | (simp only [go_sem]; done) | (simp only [ln, List.length_map]; omega) | (repeat' first | assumption | exact Ext.refl _ | refine Ext.app ?_ _)) only [go_sem, dec_f zc]; rfl)))); (try ((first | apply aops_until | apply adraw_until); (simp (disch := first | exact List.all_nil | omega | (simp only [go_sem]; done) | (simp only [ln, List.length_map]; omega) | (repeat' first | assumption | exact Ext.refl _ | refine Ext.app ?_ _)) only [go_sem, dec_f zc]; rfl))))
      refine cond_f rfl ?_
      ((repeat (first | refine Go.Lq.q1 ?_ | refine Go.Lq.q2 ?_ | refine Go.Lq.q3 ?_ | refine Go.Lq.q4 ?_ | refine Go.Lq.q5 ?_ | refine Go.Lq.q6 ?_ | refine Go.Lq.q7 ?_ | refine Go.Lq.q8 ?_ | refine Go.Lq.q9 ?_ | refine Go.Lq.qa ?_ | refine Go.Lq.qb ?_ | refine Go.Lq.qc ?_ | refine Go.Lq.qd ?_ | refine Go.Lq.qe (by decide) ?_ | refine Go.Lq.qf ?_ | refine Go.Lq.qg ?_ | ((first | apply aops_all | apply adraw_all); (simp (disch := first | exact List.all_nil | omega | (simp only [go_sem]; done) | (simp only [ln, List.length_map]; omega) | (repeat' first | assumption | exact Ext.refl _ | refine Ext.app ?_ _)) only [go_sem]; rfl)))); (try ((first | apply aops_until | apply adraw_until); (simp (disch := first | exact List.all_nil | omega | (simp only [go_sem]; done) | (simp only [ln, List.length_map]; omega) | (repeat' first | assumption | exact Ext.refl _ | refine Ext.app ?_ _)) only [go_sem]; rfl))))
      refine ⟨_, ?_, rfl, f, c % f, b, a % b, rfl, ?_, by omega, by omega, by omega, by omega, by simp [forget]⟩
      · omega
      · rw [← hg, Int.mul_comm f, Int.mul_comm b]
theorem binomial_c {q k : Nat} (h1 : 64 ≤ q) (h2 : q < 384) (hk : k < 5) : ACall Go.Proofs.Tryd.prog 67 [.int .i64 q, .int .i64 k] H fun v H' => v = .int .i64 (binI q k) ∧ H' = H := by
  (refine a67 ?_; simp only [n67, List.replicate, List.length_cons, List.length_nil, List.cons_append, List.nil_append])
  ((repeat (first | refine q1 ?_ | refine q2 ?_ | refine q3 ?_ | refine q4 ?_ | refine q5 ?_ | refine q6 ?_ | refine q7 ?_ | refine q8 ?_ | refine q9 ?_ | refine qa ?_ | refine qb ?_ | refine qc ?_ | refine qd ?_ | refine qe (by decide) ?_ | refine qf ?_ | refine qg ?_ | ((first | apply aops_all | apply adraw_all); (simp (disch := first | exact List.all_nil | omega | (simp only [go_sem]; done) | (simp only [ln, List.length_map]; omega) | (repeat' first | assumption | exact Ext.refl _ | refine Ext.app ?_ _)) only [go_sem]; rfl)))); (try ((first | apply aops_until | apply adraw_until); (simp (disch := first | exact List.all_nil | omega | (simp only [go_sem]; done) | (simp only [ln, List.length_map]; omega) | (repeat' first | assumption | exact Ext.refl _ | refine Ext.app ?_ _)) only [go_sem]; rfl))))
  refine awp_loop_n [true, true, false, false, false, true, true, false, false, false, false, false, false, false, false, false, false, false, false] k (fun i e H' => H' = H ∧ e = [.int .i64 q, .int .i64 k, junk, junk, junk, .int .i64 (binI q i), .int .i64 i, junk, junk, junk, junk, junk, junk, junk, junk, junk, junk, junk, junk]) ?_ ?_
  · exact ⟨rfl, by simp [forget, binI]⟩
  rintro i e H' hi ⟨rfl, rfl⟩
  have b1 := bin_bound q h1 h2 i (by omega)
  ((repeat (first | refine q1 ?_ | refine q2 ?_ | refine q3 ?_ | refine q4 ?_ | refine q5 ?_ | refine q6 ?_ | refine q7 ?_ | refine q8 ?_ | refine q9 ?_ | refine qa ?_ | refine qb ?_ | refine qc ?_ | refine qd ?_ | refine qe (by decide) ?_ | refine qf ?_ | refine qg ?_ | ((first | apply aops_all | apply adraw_all); (simp (disch := first | exact List.all_nil | omega | (simp only [go_sem]; done) | (simp only [ln, List.length_map]; omega) | (repeat' first | assumption | exact Ext.refl _ | refine Ext.app ?_ _)) only [go_sem]; rfl)))); (try ((first | apply aops_until | apply adraw_until); (simp (disch := first | exact List.all_nil | omega | (simp only [go_sem]; done) | (simp only [ln, List.length_map]; omega) | (repeat' first | assumption | exact Ext.refl _ | refine Ext.app ?_ _)) only [go_sem]; rfl))))
  refine cond_p rfl (fun hlt => ?_) (fun hge => ?_)
  · have b2 := bin_bound q h1 h2 (i + 1) (by omega)
    have e1 : binI q (i + 1) = binI q i * ((q : Int) - 64 * i) := rfl
    rw [e1] at b2
    ((repeat (first | refine q1 ?_ | refine q2 ?_ | refine q3 ?_ | refine q4 ?_ | refine q5 ?_ | refine q6 ?_ | refine q7 ?_ | refine q8 ?_ | refine q9 ?_ | refine qa ?_ | refine qb ?_ | refine qc ?_ | refine qd ?_ | refine qe (by decide) ?_ | refine qf ?_ | refine qg ?_ | ((first | apply aops_all | apply adraw_all); (simp (disch := first | exact List.all_nil | omega | (simp only [go_sem]; done) | (simp only [ln, List.length_map]; omega) | (repeat' first | assumption | exact Ext.refl _ | refine Ext.app ?_ _)) only [go_sem]; rfl)))); (try ((first | apply aops_until | apply adraw_until); (simp (disch := first | exact List.all_nil | omega | (simp only [go_sem]; done) | (simp only [ln, List.length_map]; omega) | (repeat' first | assumption | exact Ext.refl _ | refine Ext.app ?_ _)) only [go_sem]; rfl))))
    exact ⟨by omega, rfl, by simp [forget, binI]⟩
  · obtain rfl : i = k := by omega
    ((repeat (first | refine q1 ?_ | refine q2 ?_ | refine q3 ?_ | refine q4 ?_ | refine q5 ?_ | refine q6 ?_ | refine q7 ?_ | refine q8 ?_ | refine q9 ?_ | refine qa ?_ | refine qb ?_ | refine qc ?_ | refine qd ?_ | refine qe (by decide) ?_ | refine qf ?_ | refine qg ?_ | ((first | apply aops_all | apply adraw_all); (simp (disch := first | exact List.all_nil | omega | (simp only [go_sem]; done) | (simp only [ln, List.length_map]; omega) | (repeat' first | assumption | exact Ext.refl _ | refine Ext.app ?_ _)) only [go_sem]; rfl)))); (try ((first | apply aops_until | apply adraw_until); (simp (disch := first | exact List.all_nil | omega | (simp only [go_sem]; done) | (simp only [ln, List.length_map]; omega) | (repeat' first | assumption | exact Ext.refl _ | refine Ext.app ?_ _)) only [go_sem]; rfl))))
    exact fin_1 ⟨rfl, rfl⟩
end
end Go.Lq


namespace Go.Lq
open Go
open Go.Proofs

theorem lowF_nn {n d : Int} (hn : 0 ≤ n) (hd : 0 < d) : 0 ≤ (lowF n d).1 := Int.ediv_nonneg hn (Int.le_of_lt (gcdI_pos hd))
section
variable {H : AHeap}
theorem isLowest_c {p : Int × Int} (h1 : -4000000000000000000 ≤ p.1 ∧ p.1 ≤ 4000000000000000000) (h2 : 0 < p.2 ∧ p.2 ≤ 4000000000000000000) :
    ACall Go.Proofs.Tryd.prog 65 [fracV p] H fun v H' => v = .bool (decide (gcdI p.1 p.2 = 1)) ∧ H' = H := by
  refine ACall.drop (.bool _) ?_
  obtain ⟨n, d⟩ := p
  dsimp only at h1 h2 ⊢
  (refine a65 ?_; simp only [n65, List.replicate, List.length_cons, List.length_nil, List.cons_append, List.nil_append])
  have g0 : (H ++ [AObj.cells true 0 [.int .i64 n, .int .i64 d]])[H.length]? = some (.cells true 0 [.int .i64 n, .int .i64 d]) := at_new
  have xG : Ext H (H ++ [AObj.cells true 0 [.int .i64 n, .int .i64 d]]) := (Ext.refl H).app _
  ((repeat (first | refine q1 ?_ | refine q2 ?_ | refine q3 ?_ | refine q4 ?_ | refine q5 ?_ | refine q6 ?_ | refine q7 ?_ | refine q8 ?_ | refine q9 ?_ | refine qa ?_ | refine qb ?_ | refine qc ?_ | refine qd ?_ | refine qe (by decide) ?_ | refine qf ?_ | refine qg ?_ | ((first | apply aops_all | apply adraw_all); (simp (disch := first | exact List.all_nil | omega | (simp only [go_sem]; done) | (simp only [ln, List.length_map]; omega) | (repeat' first | assumption | exact Ext.refl _ | refine Ext.app ?_ _)) only [go_sem, dec_t h2.1]; rfl)))); (try ((first | apply aops_until | apply adraw_until); (simp (disch := first | exact List.all_nil | omega | (simp only [go_sem]; done) | (simp only [ln, List.length_map]; omega) | (repeat' first | assumption | exact Ext.refl _ | refine Ext.app ?_ _)) only [go_sem, dec_t h2.1]; rfl))))
  refine aops_call_to (bgcd_c n d h1 (by omega)) ?_
  ((repeat (first | refine q1 ?_ | refine q2 ?_ | refine q3 ?_ | refine q4 ?_ | refine q5 ?_ | refine q6 ?_ | refine q7 ?_ | refine q8 ?_ | refine q9 ?_ | refine qa ?_ | refine qb ?_ | refine qc ?_ | refine qd ?_ | refine qe (by decide) ?_ | refine qf ?_ | refine qg ?_ | ((first | apply aops_all | apply adraw_all); (simp (disch := first | exact List.all_nil | omega | (simp only [go_sem]; done) | (simp only [ln, List.length_map]; omega) | (repeat' first | assumption | exact Ext.refl _ | refine Ext.app ?_ _)) only [go_sem]; rfl)))); (try ((first | apply aops_until | apply adraw_until); (simp (disch := first | exact List.all_nil | omega | (simp only [go_sem]; done) | (simp only [ln, List.length_map]; omega) | (repeat' first | assumption | exact Ext.refl _ | refine Ext.app ?_ _)) only [go_sem]; rfl))))
  exact fin_1 ⟨rfl, xG⟩
end
end Go.Lq

namespace Go.Lq
open Go
open Go.Proofs

theorem valErr_z {deg q : Int} {x : List Int} (h : degErrL deg = 0) (hs : signalErrL x = 0) (hq : 0 ≤ q ∧ q ≤ 64 * ((x.length : Int) - 1)) : valErrL deg x q = 0 := by unfold valErrL posErrQ; simp [firstErr, h, hs, hq]

end Go.Lq

namespace Go.Lq
open Go
open Go.Proofs

theorem diffErr_z {x : List Int} {k : Int} (h : signalErrL x = 0) (hk : 1 ≤ k ∧ k ≤ 4) : diffErrL x k = 0 := by unfold diffErrL; simp [firstErr, h, hk]

end Go.Lq
