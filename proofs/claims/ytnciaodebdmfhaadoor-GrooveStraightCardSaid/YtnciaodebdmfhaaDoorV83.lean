/- GrooveStraight is proved: for every input that can be read the law returns true, and each argument reads afterwards as it read before; the package variable groove.sides holds what the program's text lays (the card ties it). -/
import Derived.Test.YtnciaodebdmfhaaDoorV82
set_option linter.unusedSimpArgs false
set_option maxRecDepth 100000
namespace Go.Lq
open Go

theorem mul_bound {x y A B : Int} (hx : -A ≤ x ∧ x ≤ A) (hy : 0 ≤ y ∧ y ≤ B) (hA : 0 ≤ A) : -(A * B) ≤ x * y ∧ x * y ≤ A * B := by
  have h1 : x * y ≤ A * y := Int.mul_le_mul_of_nonneg_right hx.2 hy.1
  have h2 : A * y ≤ A * B := Int.mul_le_mul_of_nonneg_left hy.2 hA
  have h3 : -A * y ≤ x * y := Int.mul_le_mul_of_nonneg_right hx.1 hy.1
  have h4 : -A * y = -(A * y) := Int.neg_mul A y
  omega

theorem ediv_bounds {n b B : Int} (hb : 0 < b) (hn : -B ≤ n ∧ n ≤ B) (hB : 0 ≤ B) : -B ≤ n / b ∧ n / b ≤ B := by
  constructor
  · refine Int.le_ediv_of_mul_le hb ?_
    have : -B * b ≤ -B * 1 := Int.mul_le_mul_of_nonpos_left (by omega) (by omega)
    omega
  · by_cases h : 0 ≤ n
    · exact Int.le_trans (Int.ediv_le_self _ h) hn.2
    · have := Int.ediv_neg_of_neg_of_pos (by omega : n < 0) hb
      omega

/-- What fills a gap from a to b. -/
def fillV (l : List Int) (a b n : Nat) : Int :=
  if a = 0 then l.getD (b + 1) 0 else if b + 1 = l.length then l.getD (a - 1) 0
  else l.getD (a - 1) 0 + ((l.getD (b + 1) 0 - l.getD (a - 1) 0) * ((n : Int) - ((a - 1 : Nat) : Int))) / (((b + 1 : Nat) : Int) - ((a - 1 : Nat) : Int))
def fillN (l : List Int) (a b : Nat) : Nat → Nat → List Int → List Int
  | 0, _, out => out
  | k + 1, n, out => fillN l a b k (n + 1) (out.set n (fillV l a b n))
def bridgeGo (l : List Int) : List (Int × Int) → List Int → List Int
  | [], out => out
  | g :: r, out => bridgeGo l r (fillN l g.1.toNat g.2.toNat (g.2.toNat + 1 - g.1.toNat) g.1.toNat out)
theorem bridgeGo_step {l : List Int} {gs : List (Int × Int)} {out : List Int} {i : Nat} (h : i < gs.length) : bridgeGo l (gs.drop i) out =
    bridgeGo l (gs.drop (i + 1)) (fillN l (gs.getD i (0, 0)).1.toNat (gs.getD i (0, 0)).2.toNat ((gs.getD i (0, 0)).2.toNat + 1 - (gs.getD i (0, 0)).1.toNat) (gs.getD i (0, 0)).1.toNat out) := by
  rw [drop_getD (d := (0, 0)) h]; rfl
theorem bridgeGo_end {l : List Int} {gs : List (Int × Int)} {out : List Int} {i : Nat} (h : gs.length ≤ i) : bridgeGo l (gs.drop i) out = out := by
  rw [drop_end h]; rfl
theorem fillN_len {l : List Int} {a b : Nat} : ∀ (k n : Nat) (out : List Int), (fillN l a b k n out).length = out.length
  | 0, _, _ => rfl
  | k + 1, n, out => by simp only [fillN]; rw [fillN_len k]; simp

/-- A gap that may be bridged. -/
def GapOk (count : Nat) (g : Int × Int) : Prop := ∃ a b : Nat, g = ((a : Int), (b : Int)) ∧ a ≤ b ∧ b < count ∧ ¬ (a = 0 ∧ b + 1 = count)

theorem gapsGo_full {count m : Int} (hc : 0 < count) (hm : m ≤ 0) : ∀ (r : List (Int × Int)), gapsGo count r (count - 1) m ≠ 0
  | [] => by unfold gapsGo; rw [if_neg (by omega)]; decide
  | g :: r => by
    unfold gapsGo
    split
    · rw [if_neg (by omega)]; decide
    · decide
theorem gapsGo_ok {count : Nat} : ∀ (l : List (Int × Int)) (last missing : Int), gapsGo count l last missing = 0 → missing ≤ count → ∀ g ∈ l, GapOk count g
  | [], _, _, _, _, g, hg => by cases hg
  | x :: r, last, missing, h, hm, g, hg => by
    unfold gapsGo at h
    split at h
    · rename_i h1
      split at h
      · rename_i h2
        rcases List.mem_cons.1 hg with rfl | hg
        · refine ⟨g.1.toNat, g.2.toNat, by obtain ⟨a, b⟩ := g; simp only at h1 ⊢; congr 1 <;> omega, by omega, by omega, fun hh => ?_⟩
          have e : g.2 = count - 1 := by omega
          rw [e] at h
          exact gapsGo_full (by omega) (by omega) r h
        · exact gapsGo_ok r _ _ h (by omega) g hg
      · cases h
    · cases h
theorem gaps_ok {count : Nat} {l : List (Int × Int)} (h : gapsL count l = 0) {i : Nat} (hi : i < l.length) : GapOk count (l.getD i (0, 0)) :=
  gapsGo_ok l _ _ h (Int.le_refl _) _ (by rw [List.getD_eq_getElem?_getD, List.getElem?_eq_getElem hi]; exact List.getElem_mem hi)

def bridgedL (l : List Int) (gs : List (Int × Int)) : List Int × Int :=
  if positionsErrL l = 0 then (if gapsL l.length gs = 0 then (bridgeGo l gs l, 0) else ([], gapsL l.length gs)) else ([], positionsErrL l)
theorem bridgedL_err {l : List Int} {gs : List (Int × Int)} (h : (bridgedL l gs).2 ≠ 0) : (bridgedL l gs).1 = [] := by
  unfold bridgedL at *
  by_cases h1 : positionsErrL l = 0
  · by_cases h2 : gapsL l.length gs = 0
    · simp [h1, h2] at h
    · simp [h1, h2]
  · simp [h1]
theorem bridgedL_ok {l : List Int} {gs : List (Int × Int)} (h : (bridgedL l gs).2 = 0) : positionsErrL l = 0 ∧ gapsL l.length gs = 0 ∧ bridgedL l gs = (bridgeGo l gs l, 0) := by
  unfold bridgedL at *
  by_cases h1 : positionsErrL l = 0
  · by_cases h2 : gapsL l.length gs = 0
    · exact ⟨h1, h2, by rw [if_pos h1, if_pos h2]⟩
    · rw [if_pos h1, if_neg h2] at h; exact absurd h h2
  · rw [if_neg h1] at h; exact absurd h h1

def IntsUse (H : AHeap) (out : List Int) (e : Int) (v : Value) (H1 : AHeap) : Prop := ∃ s, v = .tuple #[s, .int .i64 e] ∧ Ints H1 out s ∧ Ext H H1

section
variable {H : AHeap}

theorem bridged_c {l : List Int} {gs : List (Int × Int)} {v u : Value} (hl : Ints H l v) (hg : Pairs H gs u) (hb : l.length ≤ 1000000000) (hb2 : gs.length ≤ 1000000000) :
    ACall Go.Proofs.Tryd.prog 31 [v, u] H (IntsUse H (bridgedL l gs).1 (bridgedL l gs).2) := by
  (refine a31 ?_; simp only [n31, List.replicate, List.length_cons, List.length_nil, List.cons_append, List.nil_append])
  ((repeat (first | refine q1 ?_ | refine q2 ?_ | refine q3 ?_ | refine q4 ?_ | refine q5 ?_ | refine q6 ?_ | refine q7 ?_ | refine q8 ?_ | refine q9 ?_ | refine qa ?_ | refine qb ?_ | refine qc ?_ | refine qd ?_ | refine qe (by decide) ?_ | refine qf ?_ | refine qg ?_)); (repeat ((first | apply aops_all | apply adraw_all); (simp (disch := first | exact List.all_nil | omega | (simp only [go_sem]; done) | (simp only [ln, List.length_map]; omega) | (repeat' first | assumption | exact Ext.refl _ | refine Ext.app ?_ _)) only [go_sem]; rfl); (repeat (first | refine q1 ?_ | refine q2 ?_ | refine q3 ?_ | refine q4 ?_ | refine q5 ?_ | refine q6 ?_ | refine q7 ?_ | refine q8 ?_ | refine q9 ?_ | refine qa ?_ | refine qb ?_ | refine qc ?_ | refine qd ?_ | refine qe (by decide) ?_ | refine qf ?_ | refine qg ?_)))); (try ((first | apply aops_until | apply adraw_until); (simp (disch := first | exact List.all_nil | omega | (simp only [go_sem]; done) | (simp only [ln, List.length_map]; omega) | (repeat' first | assumption | exact Ext.refl _ | refine Ext.app ?_ _)) only [go_sem]; rfl))))
  refine aops_call_to (positionsErr_c hl hb) ?_
  ((repeat (first | refine q1 ?_ | refine q2 ?_ | refine q3 ?_ | refine q4 ?_ | refine q5 ?_ | refine q6 ?_ | refine q7 ?_ | refine q8 ?_ | refine q9 ?_ | refine qa ?_ | refine qb ?_ | refine qc ?_ | refine qd ?_ | refine qe (by decide) ?_ | refine qf ?_ | refine qg ?_)); (repeat ((first | apply aops_all | apply adraw_all); (simp (disch := first | exact List.all_nil | omega | (simp only [go_sem]; done) | (simp only [ln, List.length_map]; omega) | (repeat' first | assumption | exact Ext.refl _ | refine Ext.app ?_ _)) only [go_sem, hl.len, hl.idx, hl.load]; rfl); (repeat (first | refine q1 ?_ | refine q2 ?_ | refine q3 ?_ | refine q4 ?_ | refine q5 ?_ | refine q6 ?_ | refine q7 ?_ | refine q8 ?_ | refine q9 ?_ | refine qa ?_ | refine qb ?_ | refine qc ?_ | refine qd ?_ | refine qe (by decide) ?_ | refine qf ?_ | refine qg ?_)))); (try ((first | apply aops_until | apply adraw_until); (simp (disch := first | exact List.all_nil | omega | (simp only [go_sem]; done) | (simp only [ln, List.length_map]; omega) | (repeat' first | assumption | exact Ext.refl _ | refine Ext.app ?_ _)) only [go_sem, hl.len, hl.idx, hl.load]; rfl))))
  refine aops_call_to (gapsErr_c hg (by omega) hb2) ?_
  ((repeat (first | refine q1 ?_ | refine q2 ?_ | refine q3 ?_ | refine q4 ?_ | refine q5 ?_ | refine q6 ?_ | refine q7 ?_ | refine q8 ?_ | refine q9 ?_ | refine qa ?_ | refine qb ?_ | refine qc ?_ | refine qd ?_ | refine qe (by decide) ?_ | refine qf ?_ | refine qg ?_)); (repeat ((first | apply aops_all | apply adraw_all); (simp (disch := first | exact List.all_nil | omega | (simp only [go_sem]; done) | (simp only [ln, List.length_map]; omega) | (repeat' first | assumption | exact Ext.refl _ | refine Ext.app ?_ _)) only [go_sem]; rfl); (repeat (first | refine q1 ?_ | refine q2 ?_ | refine q3 ?_ | refine q4 ?_ | refine q5 ?_ | refine q6 ?_ | refine q7 ?_ | refine q8 ?_ | refine q9 ?_ | refine qa ?_ | refine qb ?_ | refine qc ?_ | refine qd ?_ | refine qe (by decide) ?_ | refine qf ?_ | refine qg ?_)))); (try ((first | apply aops_until | apply adraw_until); (simp (disch := first | exact List.all_nil | omega | (simp only [go_sem]; done) | (simp only [ln, List.length_map]; omega) | (repeat' first | assumption | exact Ext.refl _ | refine Ext.app ?_ _)) only [go_sem]; rfl))))
  refine aops_call_to (first_c (l := [_, _]) (Ints.last (l := [_, _]) 2) (by simp)) ?_
  have hfe : firstErr [positionsErrL l, gapsL l.length gs] = (bridgedL l gs).2 := by
    unfold firstErr bridgedL
    by_cases h1 : positionsErrL l = 0
    · by_cases h2 : gapsL l.length gs = 0
      · simp [h1, h2]
      · simp [h1, h2]
    · simp [h1]
  rw [hfe]
  ((repeat (first | refine q1 ?_ | refine q2 ?_ | refine q3 ?_ | refine q4 ?_ | refine q5 ?_ | refine q6 ?_ | refine q7 ?_ | refine q8 ?_ | refine q9 ?_ | refine qa ?_ | refine qb ?_ | refine qc ?_ | refine qd ?_ | refine qe (by decide) ?_ | refine qf ?_ | refine qg ?_)); (repeat ((first | apply aops_all | apply adraw_all); (simp (disch := first | exact List.all_nil | omega | (simp only [go_sem]; done) | (simp only [ln, List.length_map]; omega) | (repeat' first | assumption | exact Ext.refl _ | refine Ext.app ?_ _)) only [go_sem]; rfl); (repeat (first | refine q1 ?_ | refine q2 ?_ | refine q3 ?_ | refine q4 ?_ | refine q5 ?_ | refine q6 ?_ | refine q7 ?_ | refine q8 ?_ | refine q9 ?_ | refine qa ?_ | refine qb ?_ | refine qc ?_ | refine qd ?_ | refine qe (by decide) ?_ | refine qf ?_ | refine qg ?_)))); (try ((first | apply aops_until | apply adraw_until); (simp (disch := first | exact List.all_nil | omega | (simp only [go_sem]; done) | (simp only [ln, List.length_map]; omega) | (repeat' first | assumption | exact Ext.refl _ | refine Ext.app ?_ _)) only [go_sem]; rfl))))
  refine cond_p rfl (fun hne => ?_) (fun heq => ?_)
  · ((repeat (first | refine q1 ?_ | refine q2 ?_ | refine q3 ?_ | refine q4 ?_ | refine q5 ?_ | refine q6 ?_ | refine q7 ?_ | refine q8 ?_ | refine q9 ?_ | refine qa ?_ | refine qb ?_ | refine qc ?_ | refine qd ?_ | refine qe (by decide) ?_ | refine qf ?_ | refine qg ?_)); (repeat ((first | apply aops_all | apply adraw_all); (simp (disch := first | exact List.all_nil | omega | (simp only [go_sem]; done) | (simp only [ln, List.length_map]; omega) | (repeat' first | assumption | exact Ext.refl _ | refine Ext.app ?_ _)) only [go_sem]; rfl); (repeat (first | refine q1 ?_ | refine q2 ?_ | refine q3 ?_ | refine q4 ?_ | refine q5 ?_ | refine q6 ?_ | refine q7 ?_ | refine q8 ?_ | refine q9 ?_ | refine qa ?_ | refine qb ?_ | refine qc ?_ | refine qd ?_ | refine qe (by decide) ?_ | refine qf ?_ | refine qg ?_)))); (try ((first | apply aops_until | apply adraw_until); (simp (disch := first | exact List.all_nil | omega | (simp only [go_sem]; done) | (simp only [ln, List.length_map]; omega) | (repeat' first | assumption | exact Ext.refl _ | refine Ext.app ?_ _)) only [go_sem]; rfl))))
    refine fin_2 ⟨_, rfl, ?_, Ext.app (Ext.refl _) _⟩
    rw [bridgedL_err hne]
    exact ⟨rfl, .inl ⟨rfl, rfl⟩⟩
  · obtain ⟨h1, h2, h3⟩ := bridgedL_ok (Decidable.not_not.1 heq)
    have h32 : (bridgedL l gs).2 = 0 := by rw [h3]
    have hs := (sized_pos h1).1
    have hl200 := (sized_pos h1).2
    ((repeat (first | refine q1 ?_ | refine q2 ?_ | refine q3 ?_ | refine q4 ?_ | refine q5 ?_ | refine q6 ?_ | refine q7 ?_ | refine q8 ?_ | refine q9 ?_ | refine qa ?_ | refine qb ?_ | refine qc ?_ | refine qd ?_ | refine qe (by decide) ?_ | refine qf ?_ | refine qg ?_)); (repeat ((first | apply aops_all | apply adraw_all); (simp (disch := first | exact List.all_nil | omega | (simp only [go_sem]; done) | (simp only [ln, List.length_map]; omega) | (repeat' first | assumption | exact Ext.refl _ | refine Ext.app ?_ _)) only [go_sem]; rfl); (repeat (first | refine q1 ?_ | refine q2 ?_ | refine q3 ?_ | refine q4 ?_ | refine q5 ?_ | refine q6 ?_ | refine q7 ?_ | refine q8 ?_ | refine q9 ?_ | refine qa ?_ | refine qb ?_ | refine qc ?_ | refine qd ?_ | refine qe (by decide) ?_ | refine qf ?_ | refine qg ?_)))); (try ((first | apply aops_until | apply adraw_until); (simp (disch := first | exact List.all_nil | omega | (simp only [go_sem]; done) | (simp only [ln, List.length_map]; omega) | (repeat' first | assumption | exact Ext.refl _ | refine Ext.app ?_ _)) only [go_sem]; rfl))))
    refine aops_call ((clone_c (hl.ext ((Ext.refl _).app _)) hb).mono fun v1 H1 ⟨ho, hi1, hx1⟩ => ?_)
    have hx := ((Ext.refl H).app _).trans hx1
    by_cases h0 : l.length = 0
    · have hgs : gs = [] := by
        match gs, h2 with
        | [], _ => rfl
        | g :: r, h2 =>
          obtain ⟨a, b, _, hab, hbc, _⟩ := gaps_ok (i := 0) h2 (by simp)
          omega
      subst hgs
      have hout : (bridgedL l []).1 = l := by rw [h3]; rfl
      ((repeat (first | refine q1 ?_ | refine q2 ?_ | refine q3 ?_ | refine q4 ?_ | refine q5 ?_ | refine q6 ?_ | refine q7 ?_ | refine q8 ?_ | refine q9 ?_ | refine qa ?_ | refine qb ?_ | refine qc ?_ | refine qd ?_ | refine qe (by decide) ?_ | refine qf ?_ | refine qg ?_)); (repeat ((first | apply aops_all | apply adraw_all); (simp (disch := first | exact List.all_nil | omega | (simp only [go_sem]; done) | (simp only [ln, List.length_map]; omega) | (repeat' first | assumption | exact Ext.refl _ | refine Ext.app ?_ _)) only [go_sem, hg.len, hg.idx, hg.load]; rfl); (repeat (first | refine q1 ?_ | refine q2 ?_ | refine q3 ?_ | refine q4 ?_ | refine q5 ?_ | refine q6 ?_ | refine q7 ?_ | refine q8 ?_ | refine q9 ?_ | refine qa ?_ | refine qb ?_ | refine qc ?_ | refine qd ?_ | refine qe (by decide) ?_ | refine qf ?_ | refine qg ?_)))); (try ((first | apply aops_until | apply adraw_until); (simp (disch := first | exact List.all_nil | omega | (simp only [go_sem]; done) | (simp only [ln, List.length_map]; omega) | (repeat' first | assumption | exact Ext.refl _ | refine Ext.app ?_ _)) only [go_sem, hg.len, hg.idx, hg.load]; rfl))))
      refine awp_loop_n [false, false, false, false, false, false, false, true, false, false, false, false, false, false, false, false, false, false, false, false, false, false, false, false, false, false, false, false, true, true, true, false, false, false, false, false, false, false, false, false, false, false, false, false, false, false, false, false, false, false, false, false, false, false, false, false, false, false, false, false, false, false, false, false, false, false, false, false, false, false, false, false, false, false, false, false, false, false, false, false, false, false, false, false, false, false, false, false, false, false, false, false, false, false, false, false] 0 (fun i e H' => H1 = H' ∧ e = [junk, junk, junk, junk, junk, junk, junk, v1, junk, junk, junk, junk, junk, junk, junk, junk, junk, junk, junk, junk, junk, junk, junk, junk, junk, junk, junk, junk, u, .int .i64 0, .int .i64 0, junk, junk, junk, junk, junk, junk, junk, junk, junk, junk, junk, junk, junk, junk, junk, junk, junk, junk, junk, junk, junk, junk, junk, junk, junk, junk, junk, junk, junk, junk, junk, junk, junk, junk, junk, junk, junk, junk, junk, junk, junk, junk, junk, junk, junk, junk, junk, junk, junk, junk, junk, junk, junk, junk, junk, junk, junk, junk, junk, junk, junk, junk, junk, junk, junk]) ?_ ?_
      · exact ⟨rfl, by simp [forget]⟩
      · rintro i e H' hi ⟨rfl, rfl⟩
        ((repeat (first | refine q1 ?_ | refine q2 ?_ | refine q3 ?_ | refine q4 ?_ | refine q5 ?_ | refine q6 ?_ | refine q7 ?_ | refine q8 ?_ | refine q9 ?_ | refine qa ?_ | refine qb ?_ | refine qc ?_ | refine qd ?_ | refine qe (by decide) ?_ | refine qf ?_ | refine qg ?_)); (repeat ((first | apply aops_all | apply adraw_all); (simp (disch := first | exact List.all_nil | omega | (simp only [go_sem]; done) | (simp only [ln, List.length_map]; omega) | (repeat' first | assumption | exact Ext.refl _ | refine Ext.app ?_ _)) only [go_sem, dec_f]; rfl); (repeat (first | refine q1 ?_ | refine q2 ?_ | refine q3 ?_ | refine q4 ?_ | refine q5 ?_ | refine q6 ?_ | refine q7 ?_ | refine q8 ?_ | refine q9 ?_ | refine qa ?_ | refine qb ?_ | refine qc ?_ | refine qd ?_ | refine qe (by decide) ?_ | refine qf ?_ | refine qg ?_)))); (try ((first | apply aops_until | apply adraw_until); (simp (disch := first | exact List.all_nil | omega | (simp only [go_sem]; done) | (simp only [ln, List.length_map]; omega) | (repeat' first | assumption | exact Ext.refl _ | refine Ext.app ?_ _)) only [go_sem, dec_f]; rfl))))
        refine cond_f rfl ?_
        ((repeat (first | refine q1 ?_ | refine q2 ?_ | refine q3 ?_ | refine q4 ?_ | refine q5 ?_ | refine q6 ?_ | refine q7 ?_ | refine q8 ?_ | refine q9 ?_ | refine qa ?_ | refine qb ?_ | refine qc ?_ | refine qd ?_ | refine qe (by decide) ?_ | refine qf ?_ | refine qg ?_)); (repeat ((first | apply aops_all | apply adraw_all); (simp (disch := first | exact List.all_nil | omega | (simp only [go_sem]; done) | (simp only [ln, List.length_map]; omega) | (repeat' first | assumption | exact Ext.refl _ | refine Ext.app ?_ _)) only [go_sem]; rfl); (repeat (first | refine q1 ?_ | refine q2 ?_ | refine q3 ?_ | refine q4 ?_ | refine q5 ?_ | refine q6 ?_ | refine q7 ?_ | refine q8 ?_ | refine q9 ?_ | refine qa ?_ | refine qb ?_ | refine qc ?_ | refine qd ?_ | refine qe (by decide) ?_ | refine qf ?_ | refine qg ?_)))); (try ((first | apply aops_until | apply adraw_until); (simp (disch := first | exact List.all_nil | omega | (simp only [go_sem]; done) | (simp only [ln, List.length_map]; omega) | (repeat' first | assumption | exact Ext.refl _ | refine Ext.app ?_ _)) only [go_sem]; rfl))))
        refine fin_2 ⟨_, by rw [h32]; rfl, ?_, hx⟩
        rw [hout]; exact hi1
    · replace ho := ho (by omega)
      have hGx : Ext H (H ++ [.cells true 1 [.int .i64 (positionsErrL l), .int .i64 (gapsL l.length gs)]]) := (Ext.refl _).app _
      generalize (H ++ [.cells true 1 [.int .i64 (positionsErrL l), .int .i64 (gapsL l.length gs)]] : AHeap) = G at ho hx1 hGx
      ((repeat (first | refine q1 ?_ | refine q2 ?_ | refine q3 ?_ | refine q4 ?_ | refine q5 ?_ | refine q6 ?_ | refine q7 ?_ | refine q8 ?_ | refine q9 ?_ | refine qa ?_ | refine qb ?_ | refine qc ?_ | refine qd ?_ | refine qe (by decide) ?_ | refine qf ?_ | refine qg ?_)); (repeat ((first | apply aops_all | apply adraw_all); (simp (disch := first | exact List.all_nil | omega | (simp only [go_sem]; done) | (simp only [ln, List.length_map]; omega) | (repeat' first | assumption | exact Ext.refl _ | refine Ext.app ?_ _)) only [go_sem, hg.len, hg.idx, hg.load]; rfl); (repeat (first | refine q1 ?_ | refine q2 ?_ | refine q3 ?_ | refine q4 ?_ | refine q5 ?_ | refine q6 ?_ | refine q7 ?_ | refine q8 ?_ | refine q9 ?_ | refine qa ?_ | refine qb ?_ | refine qc ?_ | refine qd ?_ | refine qe (by decide) ?_ | refine qf ?_ | refine qg ?_)))); (try ((first | apply aops_until | apply adraw_until); (simp (disch := first | exact List.all_nil | omega | (simp only [go_sem]; done) | (simp only [ln, List.length_map]; omega) | (repeat' first | assumption | exact Ext.refl _ | refine Ext.app ?_ _)) only [go_sem, hg.len, hg.idx, hg.load]; rfl))))
      refine awp_loop_n [true, false, false, false, false, false, false, true, false, false, false, false, false, false, false, false, false, false, false, false, false, false, false, false, false, false, false, false, true, true, true, false, false, false, false, false, false, false, false, false, false, false, false, false, false, false, false, false, false, false, false, false, false, false, false, false, false, false, false, false, false, false, false, false, false, false, false, false, false, false, false, false, false, false, false, false, false, false, false, false, false, false, false, false, false, false, false, false, false, false, false, false, false, false, false, false] gs.length (fun i e H' => ∃ out, e = [v, junk, junk, junk, junk, junk, junk, v1, junk, junk, junk, junk, junk, junk, junk, junk, junk, junk, junk, junk, junk, junk, junk, junk, junk, junk, junk, junk, u, .int .i64 gs.length, .int .i64 i, junk, junk, junk, junk, junk, junk, junk, junk, junk, junk, junk, junk, junk, junk, junk, junk, junk, junk, junk, junk, junk, junk, junk, junk, junk, junk, junk, junk, junk, junk, junk, junk, junk, junk, junk, junk, junk, junk, junk, junk, junk, junk, junk, junk, junk, junk, junk, junk, junk, junk, junk, junk, junk, junk, junk, junk, junk, junk, junk, junk, junk, junk, junk, junk, junk] ∧ OwnI G H' out v1 ∧ Ext G H' ∧ out.length = l.length ∧ bridgeGo l (gs.drop i) out = bridgeGo l gs l) ?_ ?_
      · exact ⟨l, by simp [forget], ho, hx1, rfl, rfl⟩
      rintro i e Hb hi ⟨out, rfl, ho, hxb, hlo, hv⟩
      ((repeat (first | refine q1 ?_ | refine q2 ?_ | refine q3 ?_ | refine q4 ?_ | refine q5 ?_ | refine q6 ?_ | refine q7 ?_ | refine q8 ?_ | refine q9 ?_ | refine qa ?_ | refine qb ?_ | refine qc ?_ | refine qd ?_ | refine qe (by decide) ?_ | refine qf ?_ | refine qg ?_)); (repeat ((first | apply aops_all | apply adraw_all); (simp (disch := first | exact List.all_nil | omega | (simp only [go_sem]; done) | (simp only [ln, List.length_map]; omega) | (repeat' first | assumption | exact Ext.refl _ | refine Ext.app ?_ _)) only [go_sem]; rfl); (repeat (first | refine q1 ?_ | refine q2 ?_ | refine q3 ?_ | refine q4 ?_ | refine q5 ?_ | refine q6 ?_ | refine q7 ?_ | refine q8 ?_ | refine q9 ?_ | refine qa ?_ | refine qb ?_ | refine qc ?_ | refine qd ?_ | refine qe (by decide) ?_ | refine qf ?_ | refine qg ?_)))); (try ((first | apply aops_until | apply adraw_until); (simp (disch := first | exact List.all_nil | omega | (simp only [go_sem]; done) | (simp only [ln, List.length_map]; omega) | (repeat' first | assumption | exact Ext.refl _ | refine Ext.app ?_ _)) only [go_sem]; rfl))))
      refine cond_p rfl (fun hlt => ?_) (fun hge => ?_)
      · rw [bridgeGo_step (by omega)] at hv
        have hi' : i < gs.length := by omega
        obtain ⟨a, b, hgab, hab, hbl, hnot⟩ := gaps_ok h2 hi'
        have hxH := hGx.trans hxb
        have hid := ho.id_lt (by omega)
        rw [hgab] at hv
        simp only [Int.toNat_natCast] at hv
        ((repeat (first | refine q1 ?_ | refine q2 ?_ | refine q3 ?_ | refine q4 ?_ | refine q5 ?_ | refine q6 ?_ | refine q7 ?_ | refine q8 ?_ | refine q9 ?_ | refine qa ?_ | refine qb ?_ | refine qc ?_ | refine qd ?_ | refine qe (by decide) ?_ | refine qf ?_ | refine qg ?_)); (repeat ((first | apply aops_all | apply adraw_all); (simp (disch := first | exact List.all_nil | omega | (simp only [go_sem]; done) | (simp only [ln, List.length_map]; omega) | (repeat' first | assumption | exact Ext.refl _ | refine Ext.app ?_ _)) only [go_sem, hg.len, hg.idx, hg.load, hgab]; rfl); (repeat (first | refine q1 ?_ | refine q2 ?_ | refine q3 ?_ | refine q4 ?_ | refine q5 ?_ | refine q6 ?_ | refine q7 ?_ | refine q8 ?_ | refine q9 ?_ | refine qa ?_ | refine qb ?_ | refine qc ?_ | refine qd ?_ | refine qe (by decide) ?_ | refine qf ?_ | refine qg ?_)))); (try ((first | apply aops_until | apply adraw_until); (simp (disch := first | exact List.all_nil | omega | (simp only [go_sem]; done) | (simp only [ln, List.length_map]; omega) | (repeat' first | assumption | exact Ext.refl _ | refine Ext.app ?_ _)) only [go_sem, hg.len, hg.idx, hg.load, hgab]; rfl))))
        have hbox : (Hb ++ [.cells true 0 [.int .i64 a, .int .i64 b]])[Hb.length]? = some (AObj.cells true 0 [.int .i64 a, .int .i64 b]) := at_new
        have hne : idOf v1 ≠ Hb.length := by omega
        refine awp_loop_n [true, false, false, false, false, false, false, true, false, true, true, true, true, false, false, false, false, false, false, false, false, false, false, false, false, false, false, false, true, true, true, false, false, false, false, false, false, false, false, false, false, false, false, false, false, false, false, false, false, false, false, false, false, false, false, false, false, false, false, false, false, false, false, false, false, false, false, false, false, false, false, false, false, false, false, false, false, false, false, false, false, false, false, false, false, false, false, false, false, false, false, false, false, false, false, false] (b + 1 - a) (fun k e H' => ∃ out2, e = [v, junk, junk, junk, junk, junk, junk, v1, junk, .pointer (some ⟨Hb.length, 0, none⟩), .int .i64 ((a : Int) - 1), .int .i64 ((b : Int) + 1), .int .i64 ((a + k : Nat) : Int), junk, junk, junk, junk, junk, junk, junk, junk, junk, junk, junk, junk, junk, junk, junk, u, .int .i64 gs.length, .int .i64 i, junk, junk, junk, junk, junk, junk, junk, junk, junk, junk, junk, junk, junk, junk, junk, junk, junk, junk, junk, junk, junk, junk, junk, junk, junk, junk, junk, junk, junk, junk, junk, junk, junk, junk, junk, junk, junk, junk, junk, junk, junk, junk, junk, junk, junk, junk, junk, junk, junk, junk, junk, junk, junk, junk, junk, junk, junk, junk, junk, junk, junk, junk, junk, junk, junk] ∧
          OwnI G H' out2 v1 ∧ Ext G H' ∧ out2.length = l.length ∧ H'[Hb.length]? = some (AObj.cells true 0 [.int .i64 a, .int .i64 b]) ∧ fillN l a b (b + 1 - a - k) (a + k) out2 = fillN l a b (b + 1 - a) a out) ?_ ?_
        · exact ⟨out, by simp [forget], ho.app _, hxb.app _, hlo, hbox, rfl⟩
        rintro k e H' hk ⟨out2, rfl, ho2, hx2, hlo2, hbx, hv2⟩
        have hl2 := hl.ext (hGx.trans hx2)
        have n0 : (0 : Nat) + 1 = 1 := rfl
        ((repeat (first | refine q1 ?_ | refine q2 ?_ | refine q3 ?_ | refine q4 ?_ | refine q5 ?_ | refine q6 ?_ | refine q7 ?_ | refine q8 ?_ | refine q9 ?_ | refine qa ?_ | refine qb ?_ | refine qc ?_ | refine qd ?_ | refine qe (by decide) ?_ | refine qf ?_ | refine qg ?_)); (repeat ((first | apply aops_all | apply adraw_all); (simp (disch := first | exact List.all_nil | omega | (simp only [go_sem]; done) | (simp only [ln, List.length_map]; omega) | (repeat' first | assumption | exact Ext.refl _ | refine Ext.app ?_ _)) only [go_sem, load_at hbx]; rfl); (repeat (first | refine q1 ?_ | refine q2 ?_ | refine q3 ?_ | refine q4 ?_ | refine q5 ?_ | refine q6 ?_ | refine q7 ?_ | refine q8 ?_ | refine q9 ?_ | refine qa ?_ | refine qb ?_ | refine qc ?_ | refine qd ?_ | refine qe (by decide) ?_ | refine qf ?_ | refine qg ?_)))); (try ((first | apply aops_until | apply adraw_until); (simp (disch := first | exact List.all_nil | omega | (simp only [go_sem]; done) | (simp only [ln, List.length_map]; omega) | (repeat' first | assumption | exact Ext.refl _ | refine Ext.app ?_ _)) only [go_sem, load_at hbx]; rfl))))
        refine cond_p rfl (fun hle => ?_) (fun hgt => ?_)
        · have hkb : a + k ≤ b := by omega
          have e1 : b + 1 - a - k = (b + 1 - a - (k + 1)) + 1 := by omega
          rw [e1] at hv2
          simp only [fillN] at hv2
          have hset : (out2.set (a + k) (fillV l a b (a + k))).length = l.length := by simp [hlo2]
          have fin : ∀ x, x = fillV l a b (a + k) → OwnI G (setH H' v1 (out2.set (a + k) x)) (out2.set (a + k) (fillV l a b (a + k))) v1 := fun x hx => by
            subst hx; exact ho2.stored _ (by simp)
          by_cases ha : a = 0
          · have hval : l.getD (b + 1) 0 = fillV l a b (a + k) := by unfold fillV; rw [if_pos ha]
            have c1 : ((b : Int) + 1) = ((b + 1 : Nat) : Int) := by omega
            have hb1 : b + 1 < l.length := by omega
            ((repeat (first | refine q1 ?_ | refine q2 ?_ | refine q3 ?_ | refine q4 ?_ | refine q5 ?_ | refine q6 ?_ | refine q7 ?_ | refine q8 ?_ | refine q9 ?_ | refine qa ?_ | refine qb ?_ | refine qc ?_ | refine qd ?_ | refine qe (by decide) ?_ | refine qf ?_ | refine qg ?_)); (repeat ((first | apply aops_all | apply adraw_all); (simp (disch := first | exact List.all_nil | omega | (simp only [go_sem]; done) | (simp only [ln, List.length_map]; omega) | (repeat' first | assumption | exact Ext.refl _ | refine Ext.app ?_ _)) only [go_sem, dec_t (show (a : Int) - 1 < 0 by omega)]; rfl); (repeat (first | refine q1 ?_ | refine q2 ?_ | refine q3 ?_ | refine q4 ?_ | refine q5 ?_ | refine q6 ?_ | refine q7 ?_ | refine q8 ?_ | refine q9 ?_ | refine qa ?_ | refine qb ?_ | refine qc ?_ | refine qd ?_ | refine qe (by decide) ?_ | refine qf ?_ | refine qg ?_)))); (try ((first | apply aops_until | apply adraw_until); (simp (disch := first | exact List.all_nil | omega | (simp only [go_sem]; done) | (simp only [ln, List.length_map]; omega) | (repeat' first | assumption | exact Ext.refl _ | refine Ext.app ?_ _)) only [go_sem, dec_t (show (a : Int) - 1 < 0 by omega)]; rfl))))
            refine cond_t rfl ?_
            ((repeat (first | refine q1 ?_ | refine q2 ?_ | refine q3 ?_ | refine q4 ?_ | refine q5 ?_ | refine q6 ?_ | refine q7 ?_ | refine q8 ?_ | refine q9 ?_ | refine qa ?_ | refine qb ?_ | refine qc ?_ | refine qd ?_ | refine qe (by decide) ?_ | refine qf ?_ | refine qg ?_)); (repeat ((first | apply aops_all | apply adraw_all); (simp (disch := first | exact List.all_nil | omega | (simp only [go_sem]; done) | (simp only [ln, List.length_map]; omega) | (repeat' first | assumption | exact Ext.refl _ | refine Ext.app ?_ _)) only [go_sem, hl2.len, hl2.idx, hl2.load, ho2.ints.len, ho2.ints.idx, ho2.ints.load, c1, ho2.store (show a + k < out2.length by omega)]; rfl); (repeat (first | refine q1 ?_ | refine q2 ?_ | refine q3 ?_ | refine q4 ?_ | refine q5 ?_ | refine q6 ?_ | refine q7 ?_ | refine q8 ?_ | refine q9 ?_ | refine qa ?_ | refine qb ?_ | refine qc ?_ | refine qd ?_ | refine qe (by decide) ?_ | refine qf ?_ | refine qg ?_)))); (try ((first | apply aops_until | apply adraw_until); (simp (disch := first | exact List.all_nil | omega | (simp only [go_sem]; done) | (simp only [ln, List.length_map]; omega) | (repeat' first | assumption | exact Ext.refl _ | refine Ext.app ?_ _)) only [go_sem, hl2.len, hl2.idx, hl2.load, ho2.ints.len, ho2.ints.idx, ho2.ints.load, c1, ho2.store (show a + k < out2.length by omega)]; rfl))))
            refine ⟨by omega, _, ?_, fin _ hval, ho2.ext_set hx2 _, hset, ?_, ?_⟩
            · simp [forget]; omega
            · rw [setH_at hne]; exact hbx
            · rw [← hv2, Nat.add_assoc]
          · have c2 : (a : Int) - 1 = ((a - 1 : Nat) : Int) := by omega
            ((repeat (first | refine q1 ?_ | refine q2 ?_ | refine q3 ?_ | refine q4 ?_ | refine q5 ?_ | refine q6 ?_ | refine q7 ?_ | refine q8 ?_ | refine q9 ?_ | refine qa ?_ | refine qb ?_ | refine qc ?_ | refine qd ?_ | refine qe (by decide) ?_ | refine qf ?_ | refine qg ?_)); (repeat ((first | apply aops_all | apply adraw_all); (simp (disch := first | exact List.all_nil | omega | (simp only [go_sem]; done) | (simp only [ln, List.length_map]; omega) | (repeat' first | assumption | exact Ext.refl _ | refine Ext.app ?_ _)) only [go_sem, dec_f (show ¬ (a : Int) - 1 < 0 by omega)]; rfl); (repeat (first | refine q1 ?_ | refine q2 ?_ | refine q3 ?_ | refine q4 ?_ | refine q5 ?_ | refine q6 ?_ | refine q7 ?_ | refine q8 ?_ | refine q9 ?_ | refine qa ?_ | refine qb ?_ | refine qc ?_ | refine qd ?_ | refine qe (by decide) ?_ | refine qf ?_ | refine qg ?_)))); (try ((first | apply aops_until | apply adraw_until); (simp (disch := first | exact List.all_nil | omega | (simp only [go_sem]; done) | (simp only [ln, List.length_map]; omega) | (repeat' first | assumption | exact Ext.refl _ | refine Ext.app ?_ _)) only [go_sem, dec_f (show ¬ (a : Int) - 1 < 0 by omega)]; rfl))))
            refine cond_f rfl ?_
            by_cases hbe : b + 1 = l.length
            · have hval : l.getD (a - 1) 0 = fillV l a b (a + k) := by unfold fillV; rw [if_neg ha, if_pos hbe]
              ((repeat (first | refine q1 ?_ | refine q2 ?_ | refine q3 ?_ | refine q4 ?_ | refine q5 ?_ | refine q6 ?_ | refine q7 ?_ | refine q8 ?_ | refine q9 ?_ | refine qa ?_ | refine qb ?_ | refine qc ?_ | refine qd ?_ | refine qe (by decide) ?_ | refine qf ?_ | refine qg ?_)); (repeat ((first | apply aops_all | apply adraw_all); (simp (disch := first | exact List.all_nil | omega | (simp only [go_sem]; done) | (simp only [ln, List.length_map]; omega) | (repeat' first | assumption | exact Ext.refl _ | refine Ext.app ?_ _)) only [go_sem, hl2.len, hl2.idx, hl2.load, dec_t (show (b : Int) + 1 = (l.length : Int) by omega)]; rfl); (repeat (first | refine q1 ?_ | refine q2 ?_ | refine q3 ?_ | refine q4 ?_ | refine q5 ?_ | refine q6 ?_ | refine q7 ?_ | refine q8 ?_ | refine q9 ?_ | refine qa ?_ | refine qb ?_ | refine qc ?_ | refine qd ?_ | refine qe (by decide) ?_ | refine qf ?_ | refine qg ?_)))); (try ((first | apply aops_until | apply adraw_until); (simp (disch := first | exact List.all_nil | omega | (simp only [go_sem]; done) | (simp only [ln, List.length_map]; omega) | (repeat' first | assumption | exact Ext.refl _ | refine Ext.app ?_ _)) only [go_sem, hl2.len, hl2.idx, hl2.load, dec_t (show (b : Int) + 1 = (l.length : Int) by omega)]; rfl))))
              refine cond_t rfl ?_
              ((repeat (first | refine q1 ?_ | refine q2 ?_ | refine q3 ?_ | refine q4 ?_ | refine q5 ?_ | refine q6 ?_ | refine q7 ?_ | refine q8 ?_ | refine q9 ?_ | refine qa ?_ | refine qb ?_ | refine qc ?_ | refine qd ?_ | refine qe (by decide) ?_ | refine qf ?_ | refine qg ?_)); (repeat ((first | apply aops_all | apply adraw_all); (simp (disch := first | exact List.all_nil | omega | (simp only [go_sem]; done) | (simp only [ln, List.length_map]; omega) | (repeat' first | assumption | exact Ext.refl _ | refine Ext.app ?_ _)) only [go_sem, hl2.len, hl2.idx, hl2.load, ho2.ints.len, ho2.ints.idx, ho2.ints.load, c2, ho2.store (show a + k < out2.length by omega)]; rfl); (repeat (first | refine q1 ?_ | refine q2 ?_ | refine q3 ?_ | refine q4 ?_ | refine q5 ?_ | refine q6 ?_ | refine q7 ?_ | refine q8 ?_ | refine q9 ?_ | refine qa ?_ | refine qb ?_ | refine qc ?_ | refine qd ?_ | refine qe (by decide) ?_ | refine qf ?_ | refine qg ?_)))); (try ((first | apply aops_until | apply adraw_until); (simp (disch := first | exact List.all_nil | omega | (simp only [go_sem]; done) | (simp only [ln, List.length_map]; omega) | (repeat' first | assumption | exact Ext.refl _ | refine Ext.app ?_ _)) only [go_sem, hl2.len, hl2.idx, hl2.load, ho2.ints.len, ho2.ints.idx, ho2.ints.load, c2, ho2.store (show a + k < out2.length by omega)]; rfl))))
              refine ⟨by omega, _, ?_, fin _ hval, ho2.ext_set hx2 _, hset, ?_, ?_⟩
              · simp [forget]; omega
              · rw [setH_at hne]; exact hbx
              · rw [← hv2, Nat.add_assoc]
            · have c1 : ((b : Int) + 1) = ((b + 1 : Nat) : Int) := by omega
              have s1 := hs (b + 1)
              have s2 := hs (a - 1)
              have hmul := mul_bound (x := l.getD (b + 1) 0 - l.getD (a - 1) 0) (y := ((a + k : Nat) : Int) - ((a - 1 : Nat) : Int)) (A := 2000000) (B := 1000) (by omega) (by omega) (by omega)
              have hdiv := ediv_bounds (b := ((b + 1 : Nat) : Int) - ((a - 1 : Nat) : Int)) (by omega) hmul (by omega)
              have hval : l.getD (a - 1) 0 + ((l.getD (b + 1) 0 - l.getD (a - 1) 0) * (((a + k : Nat) : Int) - ((a - 1 : Nat) : Int))) / (((b + 1 : Nat) : Int) - ((a - 1 : Nat) : Int)) = fillV l a b (a + k) := by
                unfold fillV; rw [if_neg ha, if_neg hbe]
              ((repeat (first | refine q1 ?_ | refine q2 ?_ | refine q3 ?_ | refine q4 ?_ | refine q5 ?_ | refine q6 ?_ | refine q7 ?_ | refine q8 ?_ | refine q9 ?_ | refine qa ?_ | refine qb ?_ | refine qc ?_ | refine qd ?_ | refine qe (by decide) ?_ | refine qf ?_ | refine qg ?_)); (repeat ((first | apply aops_all | apply adraw_all); (simp (disch := first | exact List.all_nil | omega | (simp only [go_sem]; done) | (simp only [ln, List.length_map]; omega) | (repeat' first | assumption | exact Ext.refl _ | refine Ext.app ?_ _)) only [go_sem, hl2.len, hl2.idx, hl2.load, dec_f (show ¬ (b : Int) + 1 = (l.length : Int) by omega)]; rfl); (repeat (first | refine q1 ?_ | refine q2 ?_ | refine q3 ?_ | refine q4 ?_ | refine q5 ?_ | refine q6 ?_ | refine q7 ?_ | refine q8 ?_ | refine q9 ?_ | refine qa ?_ | refine qb ?_ | refine qc ?_ | refine qd ?_ | refine qe (by decide) ?_ | refine qf ?_ | refine qg ?_)))); (try ((first | apply aops_until | apply adraw_until); (simp (disch := first | exact List.all_nil | omega | (simp only [go_sem]; done) | (simp only [ln, List.length_map]; omega) | (repeat' first | assumption | exact Ext.refl _ | refine Ext.app ?_ _)) only [go_sem, hl2.len, hl2.idx, hl2.load, dec_f (show ¬ (b : Int) + 1 = (l.length : Int) by omega)]; rfl))))
              refine cond_f rfl ?_
              ((repeat (first | refine q1 ?_ | refine q2 ?_ | refine q3 ?_ | refine q4 ?_ | refine q5 ?_ | refine q6 ?_ | refine q7 ?_ | refine q8 ?_ | refine q9 ?_ | refine qa ?_ | refine qb ?_ | refine qc ?_ | refine qd ?_ | refine qe (by decide) ?_ | refine qf ?_ | refine qg ?_)); (repeat ((first | apply aops_all | apply adraw_all); (simp (disch := first | exact List.all_nil | omega | (simp only [go_sem]; done) | (simp only [ln, List.length_map]; omega) | (repeat' first | assumption | exact Ext.refl _ | refine Ext.app ?_ _)) only [go_sem, hl2.len, hl2.idx, hl2.load, c1, c2]; rfl); (repeat (first | refine q1 ?_ | refine q2 ?_ | refine q3 ?_ | refine q4 ?_ | refine q5 ?_ | refine q6 ?_ | refine q7 ?_ | refine q8 ?_ | refine q9 ?_ | refine qa ?_ | refine qb ?_ | refine qc ?_ | refine qd ?_ | refine qe (by decide) ?_ | refine qf ?_ | refine qg ?_)))); (try ((first | apply aops_until | apply adraw_until); (simp (disch := first | exact List.all_nil | omega | (simp only [go_sem]; done) | (simp only [ln, List.length_map]; omega) | (repeat' first | assumption | exact Ext.refl _ | refine Ext.app ?_ _)) only [go_sem, hl2.len, hl2.idx, hl2.load, c1, c2]; rfl))))
              refine aops_call_to (floor_c _ _ (by omega) (by omega)) ?_
              ((repeat (first | refine q1 ?_ | refine q2 ?_ | refine q3 ?_ | refine q4 ?_ | refine q5 ?_ | refine q6 ?_ | refine q7 ?_ | refine q8 ?_ | refine q9 ?_ | refine qa ?_ | refine qb ?_ | refine qc ?_ | refine qd ?_ | refine qe (by decide) ?_ | refine qf ?_ | refine qg ?_)); (repeat ((first | apply aops_all | apply adraw_all); (simp (disch := first | exact List.all_nil | omega | (simp only [go_sem]; done) | (simp only [ln, List.length_map]; omega) | (repeat' first | assumption | exact Ext.refl _ | refine Ext.app ?_ _)) only [go_sem, ho2.ints.len, ho2.ints.idx, ho2.ints.load, ho2.store (show a + k < out2.length by omega)]; rfl); (repeat (first | refine q1 ?_ | refine q2 ?_ | refine q3 ?_ | refine q4 ?_ | refine q5 ?_ | refine q6 ?_ | refine q7 ?_ | refine q8 ?_ | refine q9 ?_ | refine qa ?_ | refine qb ?_ | refine qc ?_ | refine qd ?_ | refine qe (by decide) ?_ | refine qf ?_ | refine qg ?_)))); (try ((first | apply aops_until | apply adraw_until); (simp (disch := first | exact List.all_nil | omega | (simp only [go_sem]; done) | (simp only [ln, List.length_map]; omega) | (repeat' first | assumption | exact Ext.refl _ | refine Ext.app ?_ _)) only [go_sem, ho2.ints.len, ho2.ints.idx, ho2.ints.load, ho2.store (show a + k < out2.length by omega)]; rfl))))
              refine ⟨by omega, _, ?_, fin _ hval, ho2.ext_set hx2 _, hset, ?_, ?_⟩
              · simp [forget]; omega
              · rw [setH_at hne]; exact hbx
              · rw [← hv2, Nat.add_assoc]
        · ((repeat (first | refine q1 ?_ | refine q2 ?_ | refine q3 ?_ | refine q4 ?_ | refine q5 ?_ | refine q6 ?_ | refine q7 ?_ | refine q8 ?_ | refine q9 ?_ | refine qa ?_ | refine qb ?_ | refine qc ?_ | refine qd ?_ | refine qe (by decide) ?_ | refine qf ?_ | refine qg ?_)); (repeat ((first | apply aops_all | apply adraw_all); (simp (disch := first | exact List.all_nil | omega | (simp only [go_sem]; done) | (simp only [ln, List.length_map]; omega) | (repeat' first | assumption | exact Ext.refl _ | refine Ext.app ?_ _)) only [go_sem]; rfl); (repeat (first | refine q1 ?_ | refine q2 ?_ | refine q3 ?_ | refine q4 ?_ | refine q5 ?_ | refine q6 ?_ | refine q7 ?_ | refine q8 ?_ | refine q9 ?_ | refine qa ?_ | refine qb ?_ | refine qc ?_ | refine qd ?_ | refine qe (by decide) ?_ | refine qf ?_ | refine qg ?_)))); (try ((first | apply aops_until | apply adraw_until); (simp (disch := first | exact List.all_nil | omega | (simp only [go_sem]; done) | (simp only [ln, List.length_map]; omega) | (repeat' first | assumption | exact Ext.refl _ | refine Ext.app ?_ _)) only [go_sem]; rfl))))
          have ek : b + 1 - a - k = 0 := by omega
          rw [ek] at hv2
          simp only [fillN] at hv2
          rw [← hv2] at hv
          refine ⟨by omega, out2, ?_, ho2, hx2, hlo2, hv⟩
          simp [forget]
      · ((repeat (first | refine q1 ?_ | refine q2 ?_ | refine q3 ?_ | refine q4 ?_ | refine q5 ?_ | refine q6 ?_ | refine q7 ?_ | refine q8 ?_ | refine q9 ?_ | refine qa ?_ | refine qb ?_ | refine qc ?_ | refine qd ?_ | refine qe (by decide) ?_ | refine qf ?_ | refine qg ?_)); (repeat ((first | apply aops_all | apply adraw_all); (simp (disch := first | exact List.all_nil | omega | (simp only [go_sem]; done) | (simp only [ln, List.length_map]; omega) | (repeat' first | assumption | exact Ext.refl _ | refine Ext.app ?_ _)) only [go_sem]; rfl); (repeat (first | refine q1 ?_ | refine q2 ?_ | refine q3 ?_ | refine q4 ?_ | refine q5 ?_ | refine q6 ?_ | refine q7 ?_ | refine q8 ?_ | refine q9 ?_ | refine qa ?_ | refine qb ?_ | refine qc ?_ | refine qd ?_ | refine qe (by decide) ?_ | refine qf ?_ | refine qg ?_)))); (try ((first | apply aops_until | apply adraw_until); (simp (disch := first | exact List.all_nil | omega | (simp only [go_sem]; done) | (simp only [ln, List.length_map]; omega) | (repeat' first | assumption | exact Ext.refl _ | refine Ext.app ?_ _)) only [go_sem]; rfl))))
        rw [bridgeGo_end (by omega)] at hv
        refine fin_2 ⟨_, by rw [h32]; rfl, ?_, hGx.trans hxb⟩
        rw [h3]
        rw [← hv]
        exact ho.ints

theorem refBridged_c {l : List Int} {gs : List (Int × Int)} {v u : Value} (hl : Ints H l v) (hg : Pairs H gs u) (hb2 : gs.length ≤ 1000000000) (h1 : positionsErrL l = 0) (h2 : gapsL l.length gs = 0) :
    ACall Go.Proofs.Tryd.prog 35 [v, u] H fun v1 H1 => Ints H1 (bridgeGo l gs l) v1 ∧ Ext H H1 := by
  have hs := (sized_pos h1).1
  have hl200 := (sized_pos h1).2
  (refine a35 ?_; simp only [n35, List.replicate, List.length_cons, List.length_nil, List.cons_append, List.nil_append])
  ((repeat (first | refine q1 ?_ | refine q2 ?_ | refine q3 ?_ | refine q4 ?_ | refine q5 ?_ | refine q6 ?_ | refine q7 ?_ | refine q8 ?_ | refine q9 ?_ | refine qa ?_ | refine qb ?_ | refine qc ?_ | refine qd ?_ | refine qe (by decide) ?_ | refine qf ?_ | refine qg ?_)); (repeat ((first | apply aops_all | apply adraw_all); (simp (disch := first | exact List.all_nil | omega | (simp only [go_sem]; done) | (simp only [ln, List.length_map]; omega) | (repeat' first | assumption | exact Ext.refl _ | refine Ext.app ?_ _)) only [go_sem]; rfl); (repeat (first | refine q1 ?_ | refine q2 ?_ | refine q3 ?_ | refine q4 ?_ | refine q5 ?_ | refine q6 ?_ | refine q7 ?_ | refine q8 ?_ | refine q9 ?_ | refine qa ?_ | refine qb ?_ | refine qc ?_ | refine qd ?_ | refine qe (by decide) ?_ | refine qf ?_ | refine qg ?_)))); (try ((first | apply aops_until | apply adraw_until); (simp (disch := first | exact List.all_nil | omega | (simp only [go_sem]; done) | (simp only [ln, List.length_map]; omega) | (repeat' first | assumption | exact Ext.refl _ | refine Ext.app ?_ _)) only [go_sem]; rfl))))
  refine aops_call_to (copyInts_c hl (by omega)) ?_
  by_cases h0 : l.length = 0
  · have hgs : gs = [] := by
      match gs, h2 with
      | [], _ => rfl
      | g :: r, h2 =>
        obtain ⟨a, b, _, hab, hbc, _⟩ := gaps_ok (i := 0) h2 (by simp)
        omega
    subst hgs
    have hi1 : Ints (H ++ [.cells true 1 (l.map (.int .i64))]) l (.slice (some ⟨H.length, 0, none⟩) l.length l.length) := Ints.last _
    have hx1 : Ext H (H ++ [.cells true 1 (l.map (.int .i64))]) := (Ext.refl _).app _
    generalize (H ++ [.cells true 1 (l.map (.int .i64))] : AHeap) = H1 at hi1 hx1
    generalize (Value.slice (some ⟨H.length, 0, none⟩) l.length l.length) = v1 at hi1
    have hg1 := hg.ext hx1
    ((repeat (first | refine q1 ?_ | refine q2 ?_ | refine q3 ?_ | refine q4 ?_ | refine q5 ?_ | refine q6 ?_ | refine q7 ?_ | refine q8 ?_ | refine q9 ?_ | refine qa ?_ | refine qb ?_ | refine qc ?_ | refine qd ?_ | refine qe (by decide) ?_ | refine qf ?_ | refine qg ?_)); (repeat ((first | apply aops_all | apply adraw_all); (simp (disch := first | exact List.all_nil | omega | (simp only [go_sem]; done) | (simp only [ln, List.length_map]; omega) | (repeat' first | assumption | exact Ext.refl _ | refine Ext.app ?_ _)) only [go_sem]; rfl); (repeat (first | refine q1 ?_ | refine q2 ?_ | refine q3 ?_ | refine q4 ?_ | refine q5 ?_ | refine q6 ?_ | refine q7 ?_ | refine q8 ?_ | refine q9 ?_ | refine qa ?_ | refine qb ?_ | refine qc ?_ | refine qd ?_ | refine qe (by decide) ?_ | refine qf ?_ | refine qg ?_)))); (try ((first | apply aops_until | apply adraw_until); (simp (disch := first | exact List.all_nil | omega | (simp only [go_sem]; done) | (simp only [ln, List.length_map]; omega) | (repeat' first | assumption | exact Ext.refl _ | refine Ext.app ?_ _)) only [go_sem]; rfl))))
    refine awp_loop_n [false, true, false, false, false, true, true, false, false, false, false, false, false, false, false, false, false, false, false, false, false, false, false, false, false, false, false, false, false, false, false, false, false, false, false, false, false, false, false, false, false, false, false, false, false, false, false, false, false, false, false, false, false, false, false, false, false, false, false, false, false, false, false, false, false, false, false, false, false, false, false, false, false, false, false, false, false, false, false, false, false, false, false, false, false, false, false, false, false, false, false, false, false, false] 0 (fun i e H' => H1 = H' ∧ e = [junk, u, junk, junk, junk, v1, .int .i64 0, junk, junk, junk, junk, junk, junk, junk, junk, junk, junk, junk, junk, junk, junk, junk, junk, junk, junk, junk, junk, junk, junk, junk, junk, junk, junk, junk, junk, junk, junk, junk, junk, junk, junk, junk, junk, junk, junk, junk, junk, junk, junk, junk, junk, junk, junk, junk, junk, junk, junk, junk, junk, junk, junk, junk, junk, junk, junk, junk, junk, junk, junk, junk, junk, junk, junk, junk, junk, junk, junk, junk, junk, junk, junk, junk, junk, junk, junk, junk, junk, junk, junk, junk, junk, junk, junk, junk]) ?_ ?_
    · exact ⟨rfl, by simp [forget]⟩
    · rintro i e H' hi ⟨rfl, rfl⟩
      ((repeat (first | refine q1 ?_ | refine q2 ?_ | refine q3 ?_ | refine q4 ?_ | refine q5 ?_ | refine q6 ?_ | refine q7 ?_ | refine q8 ?_ | refine q9 ?_ | refine qa ?_ | refine qb ?_ | refine qc ?_ | refine qd ?_ | refine qe (by decide) ?_ | refine qf ?_ | refine qg ?_)); (repeat ((first | apply aops_all | apply adraw_all); (simp (disch := first | exact List.all_nil | omega | (simp only [go_sem]; done) | (simp only [ln, List.length_map]; omega) | (repeat' first | assumption | exact Ext.refl _ | refine Ext.app ?_ _)) only [go_sem, hg1.len, hg1.idx, hg1.load, List.length_nil, dec_f]; rfl); (repeat (first | refine q1 ?_ | refine q2 ?_ | refine q3 ?_ | refine q4 ?_ | refine q5 ?_ | refine q6 ?_ | refine q7 ?_ | refine q8 ?_ | refine q9 ?_ | refine qa ?_ | refine qb ?_ | refine qc ?_ | refine qd ?_ | refine qe (by decide) ?_ | refine qf ?_ | refine qg ?_)))); (try ((first | apply aops_until | apply adraw_until); (simp (disch := first | exact List.all_nil | omega | (simp only [go_sem]; done) | (simp only [ln, List.length_map]; omega) | (repeat' first | assumption | exact Ext.refl _ | refine Ext.app ?_ _)) only [go_sem, hg1.len, hg1.idx, hg1.load, List.length_nil, dec_f]; rfl))))
      refine cond_f rfl ?_
      ((repeat (first | refine q1 ?_ | refine q2 ?_ | refine q3 ?_ | refine q4 ?_ | refine q5 ?_ | refine q6 ?_ | refine q7 ?_ | refine q8 ?_ | refine q9 ?_ | refine qa ?_ | refine qb ?_ | refine qc ?_ | refine qd ?_ | refine qe (by decide) ?_ | refine qf ?_ | refine qg ?_)); (repeat ((first | apply aops_all | apply adraw_all); (simp (disch := first | exact List.all_nil | omega | (simp only [go_sem]; done) | (simp only [ln, List.length_map]; omega) | (repeat' first | assumption | exact Ext.refl _ | refine Ext.app ?_ _)) only [go_sem]; rfl); (repeat (first | refine q1 ?_ | refine q2 ?_ | refine q3 ?_ | refine q4 ?_ | refine q5 ?_ | refine q6 ?_ | refine q7 ?_ | refine q8 ?_ | refine q9 ?_ | refine qa ?_ | refine qb ?_ | refine qc ?_ | refine qd ?_ | refine qe (by decide) ?_ | refine qf ?_ | refine qg ?_)))); (try ((first | apply aops_until | apply adraw_until); (simp (disch := first | exact List.all_nil | omega | (simp only [go_sem]; done) | (simp only [ln, List.length_map]; omega) | (repeat' first | assumption | exact Ext.refl _ | refine Ext.app ?_ _)) only [go_sem]; rfl))))
      exact fin_1 ⟨hi1, hx1⟩
  · have ho : OwnI H (H ++ [.cells true 1 (l.map (.int .i64))]) l (.slice (some ⟨H.length, 0, none⟩) l.length l.length) := OwnI.last (Nat.le_refl _) (by omega)
    have hx1 : Ext H (H ++ [.cells true 1 (l.map (.int .i64))]) := (Ext.refl _).app _
    generalize (H ++ [.cells true 1 (l.map (.int .i64))] : AHeap) = H1 at ho hx1
    generalize (Value.slice (some ⟨H.length, 0, none⟩) l.length l.length) = v1 at ho
    ((repeat (first | refine q1 ?_ | refine q2 ?_ | refine q3 ?_ | refine q4 ?_ | refine q5 ?_ | refine q6 ?_ | refine q7 ?_ | refine q8 ?_ | refine q9 ?_ | refine qa ?_ | refine qb ?_ | refine qc ?_ | refine qd ?_ | refine qe (by decide) ?_ | refine qf ?_ | refine qg ?_)); (repeat ((first | apply aops_all | apply adraw_all); (simp (disch := first | exact List.all_nil | omega | (simp only [go_sem]; done) | (simp only [ln, List.length_map]; omega) | (repeat' first | assumption | exact Ext.refl _ | refine Ext.app ?_ _)) only [go_sem]; rfl); (repeat (first | refine q1 ?_ | refine q2 ?_ | refine q3 ?_ | refine q4 ?_ | refine q5 ?_ | refine q6 ?_ | refine q7 ?_ | refine q8 ?_ | refine q9 ?_ | refine qa ?_ | refine qb ?_ | refine qc ?_ | refine qd ?_ | refine qe (by decide) ?_ | refine qf ?_ | refine qg ?_)))); (try ((first | apply aops_until | apply adraw_until); (simp (disch := first | exact List.all_nil | omega | (simp only [go_sem]; done) | (simp only [ln, List.length_map]; omega) | (repeat' first | assumption | exact Ext.refl _ | refine Ext.app ?_ _)) only [go_sem]; rfl))))
    refine awp_loop_n [true, true, false, false, false, true, true, false, false, false, false, false, false, false, false, false, false, false, false, false, false, false, false, false, false, false, false, false, false, false, false, false, false, false, false, false, false, false, false, false, false, false, false, false, false, false, false, false, false, false, false, false, false, false, false, false, false, false, false, false, false, false, false, false, false, false, false, false, false, false, false, false, false, false, false, false, false, false, false, false, false, false, false, false, false, false, false, false, false, false, false, false, false, false] gs.length (fun i e H' => ∃ out, e = [v, u, junk, junk, junk, v1, .int .i64 i, junk, junk, junk, junk, junk, junk, junk, junk, junk, junk, junk, junk, junk, junk, junk, junk, junk, junk, junk, junk, junk, junk, junk, junk, junk, junk, junk, junk, junk, junk, junk, junk, junk, junk, junk, junk, junk, junk, junk, junk, junk, junk, junk, junk, junk, junk, junk, junk, junk, junk, junk, junk, junk, junk, junk, junk, junk, junk, junk, junk, junk, junk, junk, junk, junk, junk, junk, junk, junk, junk, junk, junk, junk, junk, junk, junk, junk, junk, junk, junk, junk, junk, junk, junk, junk, junk, junk] ∧ OwnI H H' out v1 ∧ Ext H H' ∧ out.length = l.length ∧ bridgeGo l (gs.drop i) out = bridgeGo l gs l) ?_ ?_
    · exact ⟨l, by simp [forget], ho, hx1, rfl, rfl⟩
    rintro i e Hb hi ⟨out, rfl, ho, hxb, hlo, hv⟩
    ((repeat (first | refine q1 ?_ | refine q2 ?_ | refine q3 ?_ | refine q4 ?_ | refine q5 ?_ | refine q6 ?_ | refine q7 ?_ | refine q8 ?_ | refine q9 ?_ | refine qa ?_ | refine qb ?_ | refine qc ?_ | refine qd ?_ | refine qe (by decide) ?_ | refine qf ?_ | refine qg ?_)); (repeat ((first | apply aops_all | apply adraw_all); (simp (disch := first | exact List.all_nil | omega | (simp only [go_sem]; done) | (simp only [ln, List.length_map]; omega) | (repeat' first | assumption | exact Ext.refl _ | refine Ext.app ?_ _)) only [go_sem, hg.len, hg.idx, hg.load]; rfl); (repeat (first | refine q1 ?_ | refine q2 ?_ | refine q3 ?_ | refine q4 ?_ | refine q5 ?_ | refine q6 ?_ | refine q7 ?_ | refine q8 ?_ | refine q9 ?_ | refine qa ?_ | refine qb ?_ | refine qc ?_ | refine qd ?_ | refine qe (by decide) ?_ | refine qf ?_ | refine qg ?_)))); (try ((first | apply aops_until | apply adraw_until); (simp (disch := first | exact List.all_nil | omega | (simp only [go_sem]; done) | (simp only [ln, List.length_map]; omega) | (repeat' first | assumption | exact Ext.refl _ | refine Ext.app ?_ _)) only [go_sem, hg.len, hg.idx, hg.load]; rfl))))
    refine cond_p rfl (fun hlt => ?_) (fun hge => ?_)
    · rw [bridgeGo_step (by omega)] at hv
      have hi' : i < gs.length := by omega
      obtain ⟨a, b, hgab, hab, hbl, hnot⟩ := gaps_ok h2 hi'
      rw [hgab] at hv
      simp only [Int.toNat_natCast] at hv
      ((repeat (first | refine q1 ?_ | refine q2 ?_ | refine q3 ?_ | refine q4 ?_ | refine q5 ?_ | refine q6 ?_ | refine q7 ?_ | refine q8 ?_ | refine q9 ?_ | refine qa ?_ | refine qb ?_ | refine qc ?_ | refine qd ?_ | refine qe (by decide) ?_ | refine qf ?_ | refine qg ?_)); (repeat ((first | apply aops_all | apply adraw_all); (simp (disch := first | exact List.all_nil | omega | (simp only [go_sem]; done) | (simp only [ln, List.length_map]; omega) | (repeat' first | assumption | exact Ext.refl _ | refine Ext.app ?_ _)) only [go_sem, hg.len, hg.idx, hg.load, hgab]; rfl); (repeat (first | refine q1 ?_ | refine q2 ?_ | refine q3 ?_ | refine q4 ?_ | refine q5 ?_ | refine q6 ?_ | refine q7 ?_ | refine q8 ?_ | refine q9 ?_ | refine qa ?_ | refine qb ?_ | refine qc ?_ | refine qd ?_ | refine qe (by decide) ?_ | refine qf ?_ | refine qg ?_)))); (try ((first | apply aops_until | apply adraw_until); (simp (disch := first | exact List.all_nil | omega | (simp only [go_sem]; done) | (simp only [ln, List.length_map]; omega) | (repeat' first | assumption | exact Ext.refl _ | refine Ext.app ?_ _)) only [go_sem, hg.len, hg.idx, hg.load, hgab]; rfl))))
      refine awp_loop_n [true, true, false, false, false, true, true, true, true, true, false, false, false, false, false, false, false, false, false, false, false, false, false, false, false, false, false, false, false, false, false, false, false, false, false, false, false, false, false, false, false, false, false, false, false, false, false, false, false, false, false, false, false, false, false, false, false, false, false, false, false, false, false, false, false, false, false, false, false, false, false, false, false, false, false, false, false, false, false, false, false, false, false, false, false, false, false, false, false, false, false, false, false, false] (b + 1 - a) (fun k e H' => ∃ out2, e = [v, u, junk, junk, junk, v1, .int .i64 i, .int .i64 ((a : Int) - 1), .int .i64 ((b : Int) + 1), .int .i64 ((a + k : Nat) : Int), junk, junk, junk, junk, junk, junk, junk, junk, junk, junk, junk, junk, junk, junk, junk, junk, junk, junk, junk, junk, junk, junk, junk, junk, junk, junk, junk, junk, junk, junk, junk, junk, junk, junk, junk, junk, junk, junk, junk, junk, junk, junk, junk, junk, junk, junk, junk, junk, junk, junk, junk, junk, junk, junk, junk, junk, junk, junk, junk, junk, junk, junk, junk, junk, junk, junk, junk, junk, junk, junk, junk, junk, junk, junk, junk, junk, junk, junk, junk, junk, junk, junk, junk, junk] ∧
        OwnI H H' out2 v1 ∧ Ext H H' ∧ out2.length = l.length ∧ fillN l a b (b + 1 - a - k) (a + k) out2 = fillN l a b (b + 1 - a) a out) ?_ ?_
      · exact ⟨out, by simp [forget], ho, hxb, hlo, rfl⟩
      rintro k e H' hk ⟨out2, rfl, ho2, hx2, hlo2, hv2⟩
      have hl2 := hl.ext hx2
      ((repeat (first | refine q1 ?_ | refine q2 ?_ | refine q3 ?_ | refine q4 ?_ | refine q5 ?_ | refine q6 ?_ | refine q7 ?_ | refine q8 ?_ | refine q9 ?_ | refine qa ?_ | refine qb ?_ | refine qc ?_ | refine qd ?_ | refine qe (by decide) ?_ | refine qf ?_ | refine qg ?_)); (repeat ((first | apply aops_all | apply adraw_all); (simp (disch := first | exact List.all_nil | omega | (simp only [go_sem]; done) | (simp only [ln, List.length_map]; omega) | (repeat' first | assumption | exact Ext.refl _ | refine Ext.app ?_ _)) only [go_sem, hg.len, hg.idx, hg.load, hgab]; rfl); (repeat (first | refine q1 ?_ | refine q2 ?_ | refine q3 ?_ | refine q4 ?_ | refine q5 ?_ | refine q6 ?_ | refine q7 ?_ | refine q8 ?_ | refine q9 ?_ | refine qa ?_ | refine qb ?_ | refine qc ?_ | refine qd ?_ | refine qe (by decide) ?_ | refine qf ?_ | refine qg ?_)))); (try ((first | apply aops_until | apply adraw_until); (simp (disch := first | exact List.all_nil | omega | (simp only [go_sem]; done) | (simp only [ln, List.length_map]; omega) | (repeat' first | assumption | exact Ext.refl _ | refine Ext.app ?_ _)) only [go_sem, hg.len, hg.idx, hg.load, hgab]; rfl))))
      refine cond_p rfl (fun hle => ?_) (fun hgt => ?_)
      · have hkb : a + k ≤ b := by omega
        have e1 : b + 1 - a - k = (b + 1 - a - (k + 1)) + 1 := by omega
        rw [e1] at hv2
        simp only [fillN] at hv2
        have hset : (out2.set (a + k) (fillV l a b (a + k))).length = l.length := by simp [hlo2]
        have fin : ∀ x, x = fillV l a b (a + k) → OwnI H (setH H' v1 (out2.set (a + k) x)) (out2.set (a + k) (fillV l a b (a + k))) v1 := fun x hx => by
          subst hx; exact ho2.stored _ (by simp)
        by_cases ha : a = 0
        · have hval : l.getD (b + 1) 0 = fillV l a b (a + k) := by unfold fillV; rw [if_pos ha]
          have c1 : ((b : Int) + 1) = ((b + 1 : Nat) : Int) := by omega
          have hb1 : b + 1 < l.length := by omega
          ((repeat (first | refine q1 ?_ | refine q2 ?_ | refine q3 ?_ | refine q4 ?_ | refine q5 ?_ | refine q6 ?_ | refine q7 ?_ | refine q8 ?_ | refine q9 ?_ | refine qa ?_ | refine qb ?_ | refine qc ?_ | refine qd ?_ | refine qe (by decide) ?_ | refine qf ?_ | refine qg ?_)); (repeat ((first | apply aops_all | apply adraw_all); (simp (disch := first | exact List.all_nil | omega | (simp only [go_sem]; done) | (simp only [ln, List.length_map]; omega) | (repeat' first | assumption | exact Ext.refl _ | refine Ext.app ?_ _)) only [go_sem, dec_t (show (a : Int) - 1 < 0 by omega)]; rfl); (repeat (first | refine q1 ?_ | refine q2 ?_ | refine q3 ?_ | refine q4 ?_ | refine q5 ?_ | refine q6 ?_ | refine q7 ?_ | refine q8 ?_ | refine q9 ?_ | refine qa ?_ | refine qb ?_ | refine qc ?_ | refine qd ?_ | refine qe (by decide) ?_ | refine qf ?_ | refine qg ?_)))); (try ((first | apply aops_until | apply adraw_until); (simp (disch := first | exact List.all_nil | omega | (simp only [go_sem]; done) | (simp only [ln, List.length_map]; omega) | (repeat' first | assumption | exact Ext.refl _ | refine Ext.app ?_ _)) only [go_sem, dec_t (show (a : Int) - 1 < 0 by omega)]; rfl))))
          refine cond_t rfl ?_
          ((repeat (first | refine q1 ?_ | refine q2 ?_ | refine q3 ?_ | refine q4 ?_ | refine q5 ?_ | refine q6 ?_ | refine q7 ?_ | refine q8 ?_ | refine q9 ?_ | refine qa ?_ | refine qb ?_ | refine qc ?_ | refine qd ?_ | refine qe (by decide) ?_ | refine qf ?_ | refine qg ?_)); (repeat ((first | apply aops_all | apply adraw_all); (simp (disch := first | exact List.all_nil | omega | (simp only [go_sem]; done) | (simp only [ln, List.length_map]; omega) | (repeat' first | assumption | exact Ext.refl _ | refine Ext.app ?_ _)) only [go_sem, hl2.len, hl2.idx, hl2.load, ho2.ints.len, ho2.ints.idx, ho2.ints.load, c1, ho2.store (show a + k < out2.length by omega)]; rfl); (repeat (first | refine q1 ?_ | refine q2 ?_ | refine q3 ?_ | refine q4 ?_ | refine q5 ?_ | refine q6 ?_ | refine q7 ?_ | refine q8 ?_ | refine q9 ?_ | refine qa ?_ | refine qb ?_ | refine qc ?_ | refine qd ?_ | refine qe (by decide) ?_ | refine qf ?_ | refine qg ?_)))); (try ((first | apply aops_until | apply adraw_until); (simp (disch := first | exact List.all_nil | omega | (simp only [go_sem]; done) | (simp only [ln, List.length_map]; omega) | (repeat' first | assumption | exact Ext.refl _ | refine Ext.app ?_ _)) only [go_sem, hl2.len, hl2.idx, hl2.load, ho2.ints.len, ho2.ints.idx, ho2.ints.load, c1, ho2.store (show a + k < out2.length by omega)]; rfl))))
          refine ⟨by omega, _, ?_, fin _ hval, ho2.ext_set hx2 _, hset, ?_⟩
          · simp [forget]; omega
          · rw [← hv2, Nat.add_assoc]
        · have c2 : (a : Int) - 1 = ((a - 1 : Nat) : Int) := by omega
          ((repeat (first | refine q1 ?_ | refine q2 ?_ | refine q3 ?_ | refine q4 ?_ | refine q5 ?_ | refine q6 ?_ | refine q7 ?_ | refine q8 ?_ | refine q9 ?_ | refine qa ?_ | refine qb ?_ | refine qc ?_ | refine qd ?_ | refine qe (by decide) ?_ | refine qf ?_ | refine qg ?_)); (repeat ((first | apply aops_all | apply adraw_all); (simp (disch := first | exact List.all_nil | omega | (simp only [go_sem]; done) | (simp only [ln, List.length_map]; omega) | (repeat' first | assumption | exact Ext.refl _ | refine Ext.app ?_ _)) only [go_sem, dec_f (show ¬ (a : Int) - 1 < 0 by omega)]; rfl); (repeat (first | refine q1 ?_ | refine q2 ?_ | refine q3 ?_ | refine q4 ?_ | refine q5 ?_ | refine q6 ?_ | refine q7 ?_ | refine q8 ?_ | refine q9 ?_ | refine qa ?_ | refine qb ?_ | refine qc ?_ | refine qd ?_ | refine qe (by decide) ?_ | refine qf ?_ | refine qg ?_)))); (try ((first | apply aops_until | apply adraw_until); (simp (disch := first | exact List.all_nil | omega | (simp only [go_sem]; done) | (simp only [ln, List.length_map]; omega) | (repeat' first | assumption | exact Ext.refl _ | refine Ext.app ?_ _)) only [go_sem, dec_f (show ¬ (a : Int) - 1 < 0 by omega)]; rfl))))
          refine cond_f rfl ?_
          by_cases hbe : b + 1 = l.length
          · have hval : l.getD (a - 1) 0 = fillV l a b (a + k) := by unfold fillV; rw [if_neg ha, if_pos hbe]
            ((repeat (first | refine q1 ?_ | refine q2 ?_ | refine q3 ?_ | refine q4 ?_ | refine q5 ?_ | refine q6 ?_ | refine q7 ?_ | refine q8 ?_ | refine q9 ?_ | refine qa ?_ | refine qb ?_ | refine qc ?_ | refine qd ?_ | refine qe (by decide) ?_ | refine qf ?_ | refine qg ?_)); (repeat ((first | apply aops_all | apply adraw_all); (simp (disch := first | exact List.all_nil | omega | (simp only [go_sem]; done) | (simp only [ln, List.length_map]; omega) | (repeat' first | assumption | exact Ext.refl _ | refine Ext.app ?_ _)) only [go_sem, hl2.len, hl2.idx, hl2.load, dec_t (show (b : Int) + 1 = (l.length : Int) by omega)]; rfl); (repeat (first | refine q1 ?_ | refine q2 ?_ | refine q3 ?_ | refine q4 ?_ | refine q5 ?_ | refine q6 ?_ | refine q7 ?_ | refine q8 ?_ | refine q9 ?_ | refine qa ?_ | refine qb ?_ | refine qc ?_ | refine qd ?_ | refine qe (by decide) ?_ | refine qf ?_ | refine qg ?_)))); (try ((first | apply aops_until | apply adraw_until); (simp (disch := first | exact List.all_nil | omega | (simp only [go_sem]; done) | (simp only [ln, List.length_map]; omega) | (repeat' first | assumption | exact Ext.refl _ | refine Ext.app ?_ _)) only [go_sem, hl2.len, hl2.idx, hl2.load, dec_t (show (b : Int) + 1 = (l.length : Int) by omega)]; rfl))))
            refine cond_t rfl ?_
            ((repeat (first | refine q1 ?_ | refine q2 ?_ | refine q3 ?_ | refine q4 ?_ | refine q5 ?_ | refine q6 ?_ | refine q7 ?_ | refine q8 ?_ | refine q9 ?_ | refine qa ?_ | refine qb ?_ | refine qc ?_ | refine qd ?_ | refine qe (by decide) ?_ | refine qf ?_ | refine qg ?_)); (repeat ((first | apply aops_all | apply adraw_all); (simp (disch := first | exact List.all_nil | omega | (simp only [go_sem]; done) | (simp only [ln, List.length_map]; omega) | (repeat' first | assumption | exact Ext.refl _ | refine Ext.app ?_ _)) only [go_sem, hl2.len, hl2.idx, hl2.load, ho2.ints.len, ho2.ints.idx, ho2.ints.load, c2, ho2.store (show a + k < out2.length by omega)]; rfl); (repeat (first | refine q1 ?_ | refine q2 ?_ | refine q3 ?_ | refine q4 ?_ | refine q5 ?_ | refine q6 ?_ | refine q7 ?_ | refine q8 ?_ | refine q9 ?_ | refine qa ?_ | refine qb ?_ | refine qc ?_ | refine qd ?_ | refine qe (by decide) ?_ | refine qf ?_ | refine qg ?_)))); (try ((first | apply aops_until | apply adraw_until); (simp (disch := first | exact List.all_nil | omega | (simp only [go_sem]; done) | (simp only [ln, List.length_map]; omega) | (repeat' first | assumption | exact Ext.refl _ | refine Ext.app ?_ _)) only [go_sem, hl2.len, hl2.idx, hl2.load, ho2.ints.len, ho2.ints.idx, ho2.ints.load, c2, ho2.store (show a + k < out2.length by omega)]; rfl))))
            refine ⟨by omega, _, ?_, fin _ hval, ho2.ext_set hx2 _, hset, ?_⟩
            · simp [forget]; omega
            · rw [← hv2, Nat.add_assoc]
          · have c1 : ((b : Int) + 1) = ((b + 1 : Nat) : Int) := by omega
            have s1 := hs (b + 1)
            have s2 := hs (a - 1)
            have hmul := mul_bound (x := l.getD (b + 1) 0 - l.getD (a - 1) 0) (y := ((a + k : Nat) : Int) - ((a - 1 : Nat) : Int)) (A := 2000000) (B := 1000) (by omega) (by omega) (by omega)
            have hmul2 := mul_bound (x := l.getD (a - 1) 0) (y := ((b + 1 : Nat) : Int) - ((a - 1 : Nat) : Int)) (A := 2000000) (B := 1000) (by omega) (by omega) (by omega)
            have hval : (l.getD (a - 1) 0 * (((b + 1 : Nat) : Int) - ((a - 1 : Nat) : Int)) + (l.getD (b + 1) 0 - l.getD (a - 1) 0) * (((a + k : Nat) : Int) - ((a - 1 : Nat) : Int))) / (((b + 1 : Nat) : Int) - ((a - 1 : Nat) : Int)) = fillV l a b (a + k) := by
              unfold fillV; rw [if_neg ha, if_neg hbe, Int.mul_add_ediv_right _ _ (by omega)]
            ((repeat (first | refine q1 ?_ | refine q2 ?_ | refine q3 ?_ | refine q4 ?_ | refine q5 ?_ | refine q6 ?_ | refine q7 ?_ | refine q8 ?_ | refine q9 ?_ | refine qa ?_ | refine qb ?_ | refine qc ?_ | refine qd ?_ | refine qe (by decide) ?_ | refine qf ?_ | refine qg ?_)); (repeat ((first | apply aops_all | apply adraw_all); (simp (disch := first | exact List.all_nil | omega | (simp only [go_sem]; done) | (simp only [ln, List.length_map]; omega) | (repeat' first | assumption | exact Ext.refl _ | refine Ext.app ?_ _)) only [go_sem, hl2.len, hl2.idx, hl2.load, dec_f (show ¬ (b : Int) + 1 = (l.length : Int) by omega)]; rfl); (repeat (first | refine q1 ?_ | refine q2 ?_ | refine q3 ?_ | refine q4 ?_ | refine q5 ?_ | refine q6 ?_ | refine q7 ?_ | refine q8 ?_ | refine q9 ?_ | refine qa ?_ | refine qb ?_ | refine qc ?_ | refine qd ?_ | refine qe (by decide) ?_ | refine qf ?_ | refine qg ?_)))); (try ((first | apply aops_until | apply adraw_until); (simp (disch := first | exact List.all_nil | omega | (simp only [go_sem]; done) | (simp only [ln, List.length_map]; omega) | (repeat' first | assumption | exact Ext.refl _ | refine Ext.app ?_ _)) only [go_sem, hl2.len, hl2.idx, hl2.load, dec_f (show ¬ (b : Int) + 1 = (l.length : Int) by omega)]; rfl))))
            refine cond_f rfl ?_
            ((repeat (first | refine q1 ?_ | refine q2 ?_ | refine q3 ?_ | refine q4 ?_ | refine q5 ?_ | refine q6 ?_ | refine q7 ?_ | refine q8 ?_ | refine q9 ?_ | refine qa ?_ | refine qb ?_ | refine qc ?_ | refine qd ?_ | refine qe (by decide) ?_ | refine qf ?_ | refine qg ?_)); (repeat ((first | apply aops_all | apply adraw_all); (simp (disch := first | exact List.all_nil | omega | (simp only [go_sem]; done) | (simp only [ln, List.length_map]; omega) | (repeat' first | assumption | exact Ext.refl _ | refine Ext.app ?_ _)) only [go_sem, hl2.len, hl2.idx, hl2.load, c1, c2]; rfl); (repeat (first | refine q1 ?_ | refine q2 ?_ | refine q3 ?_ | refine q4 ?_ | refine q5 ?_ | refine q6 ?_ | refine q7 ?_ | refine q8 ?_ | refine q9 ?_ | refine qa ?_ | refine qb ?_ | refine qc ?_ | refine qd ?_ | refine qe (by decide) ?_ | refine qf ?_ | refine qg ?_)))); (try ((first | apply aops_until | apply adraw_until); (simp (disch := first | exact List.all_nil | omega | (simp only [go_sem]; done) | (simp only [ln, List.length_map]; omega) | (repeat' first | assumption | exact Ext.refl _ | refine Ext.app ?_ _)) only [go_sem, hl2.len, hl2.idx, hl2.load, c1, c2]; rfl))))
            refine adraw_call (N := []) (firstD (bfloor_c _ _ (by omega) (by omega))) ?_
            ((repeat (first | refine q1 ?_ | refine q2 ?_ | refine q3 ?_ | refine q4 ?_ | refine q5 ?_ | refine q6 ?_ | refine q7 ?_ | refine q8 ?_ | refine q9 ?_ | refine qa ?_ | refine qb ?_ | refine qc ?_ | refine qd ?_ | refine qe (by decide) ?_ | refine qf ?_ | refine qg ?_)); (repeat ((first | apply aops_all | apply adraw_all); (simp (disch := first | exact List.all_nil | omega | (simp only [go_sem]; done) | (simp only [ln, List.length_map]; omega) | (repeat' first | assumption | exact Ext.refl _ | refine Ext.app ?_ _)) only [go_sem, ho2.ints.len, ho2.ints.idx, ho2.ints.load, List.append_nil, ho2.store (show a + k < out2.length by omega)]; rfl); (repeat (first | refine q1 ?_ | refine q2 ?_ | refine q3 ?_ | refine q4 ?_ | refine q5 ?_ | refine q6 ?_ | refine q7 ?_ | refine q8 ?_ | refine q9 ?_ | refine qa ?_ | refine qb ?_ | refine qc ?_ | refine qd ?_ | refine qe (by decide) ?_ | refine qf ?_ | refine qg ?_)))); (try ((first | apply aops_until | apply adraw_until); (simp (disch := first | exact List.all_nil | omega | (simp only [go_sem]; done) | (simp only [ln, List.length_map]; omega) | (repeat' first | assumption | exact Ext.refl _ | refine Ext.app ?_ _)) only [go_sem, ho2.ints.len, ho2.ints.idx, ho2.ints.load, List.append_nil, ho2.store (show a + k < out2.length by omega)]; rfl))))
            refine ⟨by omega, _, ?_, fin _ hval, ho2.ext_set hx2 _, hset, ?_⟩
            · simp [forget]; omega
            · rw [← hv2, Nat.add_assoc]
      · ((repeat (first | refine q1 ?_ | refine q2 ?_ | refine q3 ?_ | refine q4 ?_ | refine q5 ?_ | refine q6 ?_ | refine q7 ?_ | refine q8 ?_ | refine q9 ?_ | refine qa ?_ | refine qb ?_ | refine qc ?_ | refine qd ?_ | refine qe (by decide) ?_ | refine qf ?_ | refine qg ?_)); (repeat ((first | apply aops_all | apply adraw_all); (simp (disch := first | exact List.all_nil | omega | (simp only [go_sem]; done) | (simp only [ln, List.length_map]; omega) | (repeat' first | assumption | exact Ext.refl _ | refine Ext.app ?_ _)) only [go_sem]; rfl); (repeat (first | refine q1 ?_ | refine q2 ?_ | refine q3 ?_ | refine q4 ?_ | refine q5 ?_ | refine q6 ?_ | refine q7 ?_ | refine q8 ?_ | refine q9 ?_ | refine qa ?_ | refine qb ?_ | refine qc ?_ | refine qd ?_ | refine qe (by decide) ?_ | refine qf ?_ | refine qg ?_)))); (try ((first | apply aops_until | apply adraw_until); (simp (disch := first | exact List.all_nil | omega | (simp only [go_sem]; done) | (simp only [ln, List.length_map]; omega) | (repeat' first | assumption | exact Ext.refl _ | refine Ext.app ?_ _)) only [go_sem]; rfl))))
        have ek : b + 1 - a - k = 0 := by omega
        rw [ek] at hv2
        simp only [fillN] at hv2
        rw [← hv2] at hv
        refine ⟨by omega, out2, ?_, ho2, hx2, hlo2, hv⟩
        simp [forget]
    · ((repeat (first | refine q1 ?_ | refine q2 ?_ | refine q3 ?_ | refine q4 ?_ | refine q5 ?_ | refine q6 ?_ | refine q7 ?_ | refine q8 ?_ | refine q9 ?_ | refine qa ?_ | refine qb ?_ | refine qc ?_ | refine qd ?_ | refine qe (by decide) ?_ | refine qf ?_ | refine qg ?_)); (repeat ((first | apply aops_all | apply adraw_all); (simp (disch := first | exact List.all_nil | omega | (simp only [go_sem]; done) | (simp only [ln, List.length_map]; omega) | (repeat' first | assumption | exact Ext.refl _ | refine Ext.app ?_ _)) only [go_sem]; rfl); (repeat (first | refine q1 ?_ | refine q2 ?_ | refine q3 ?_ | refine q4 ?_ | refine q5 ?_ | refine q6 ?_ | refine q7 ?_ | refine q8 ?_ | refine q9 ?_ | refine qa ?_ | refine qb ?_ | refine qc ?_ | refine qd ?_ | refine qe (by decide) ?_ | refine qf ?_ | refine qg ?_)))); (try ((first | apply aops_until | apply adraw_until); (simp (disch := first | exact List.all_nil | omega | (simp only [go_sem]; done) | (simp only [ln, List.length_map]; omega) | (repeat' first | assumption | exact Ext.refl _ | refine Ext.app ?_ _)) only [go_sem]; rfl))))
      rw [bridgeGo_end (by omega)] at hv
      refine fin_1 ⟨?_, hxb⟩
      rw [← hv]
      exact ho.ints
end
end Go.Lq

namespace Go.Lq
open Go
open Go.Proofs

/-! ### Plain: what is in a gap, and what is not -/

theorem fillN_at {l : List Int} {a b : Nat} : ∀ (k n : Nat) (out : List Int) (i : Nat), i < out.length → (fillN l a b k n out).getD i 0 = if n ≤ i ∧ i < n + k then fillV l a b i else out.getD i 0
  | 0, n, out, i, hi => by
    rw [if_neg (by omega)]; rfl
  | k + 1, n, out, i, hi => by
    simp only [fillN]
    rw [fillN_at k (n + 1) _ i (by simpa using hi)]
    by_cases h1 : n = i
    · subst h1
      rw [if_neg (by omega), if_pos (by omega)]
      rw [List.getD_eq_getElem?_getD, List.getElem?_set_self hi]; rfl
    · have e : (out.set n (fillV l a b n)).getD i 0 = out.getD i 0 := by
        rw [List.getD_eq_getElem?_getD, List.getD_eq_getElem?_getD, List.getElem?_set_ne h1]
      rw [e]
      by_cases h2 : n + 1 ≤ i ∧ i < n + 1 + k
      · rw [if_pos h2, if_pos (by omega)]
      · rw [if_neg h2, if_neg (by omega)]

def inG (i : Nat) (g : Int × Int) : Prop := g.1 ≤ i ∧ (i : Int) ≤ g.2

/-- The gaps stand in order. -/
theorem gapsGo_order {count : Int} : ∀ (l : List (Int × Int)) (last missing : Int), gapsGo count l last missing = 0 → ∀ g ∈ l, last + 1 < g.1
  | [], _, _, _, g, hg => by cases hg
  | x :: r, last, missing, h, g, hg => by
    unfold gapsGo at h
    split at h
    · split at h
      · rename_i h1 h2
        rcases List.mem_cons.1 hg with rfl | hg
        · exact h2.2
        · have := gapsGo_order r _ _ h g hg
          omega
      · cases h
    · cases h

theorem bridgeGo_len {l : List Int} : ∀ (gs : List (Int × Int)) (out : List Int), (bridgeGo l gs out).length = out.length
  | [], _ => rfl
  | g :: r, out => by simp only [bridgeGo]; rw [bridgeGo_len r, fillN_len]

theorem bridgeGo_out {count : Int} {l : List Int} {i : Nat} : ∀ (gs : List (Int × Int)) (last missing : Int) (out : List Int), gapsGo count gs last missing = 0 → (∀ g ∈ gs, 0 ≤ g.1) → (∀ g ∈ gs, ¬ inG i g) → i < out.length →
    (bridgeGo l gs out).getD i 0 = out.getD i 0
  | [], _, _, _, _, _, _, _ => rfl
  | g :: r, last, missing, out, h, h0, hn, hi => by
    unfold gapsGo at h
    split at h
    · rename_i h1
      split at h
      · rename_i h2
        simp only [bridgeGo]
        rw [bridgeGo_out r _ _ _ h (fun g hg => h0 g (by simp [hg])) (fun g hg => hn g (by simp [hg])) (by rw [fillN_len]; exact hi), fillN_at _ _ _ _ hi, if_neg]
        have := hn g (by simp)
        unfold inG at this
        omega
      · cases h
    · cases h
theorem bridgeGo_in {count : Int} {l : List Int} {i : Nat} : ∀ (gs : List (Int × Int)) (last missing : Int) (out : List Int), gapsGo count gs last missing = 0 → ∀ g ∈ gs, inG i g → i < out.length →
    (bridgeGo l gs out).getD i 0 = fillV l g.1.toNat g.2.toNat i
  | [], _, _, _, _, g, hg, _, _ => by cases hg
  | x :: r, last, missing, out, h, g, hg, hin, hi => by
    unfold gapsGo at h
    split at h
    · rename_i h1
      split at h
      · rename_i h2
        simp only [bridgeGo]
        rcases List.mem_cons.1 hg with rfl | hg
        · have hord := gapsGo_order r _ _ h
          unfold inG at hin
          rw [bridgeGo_out r _ _ _ h (fun y hy => by have := hord y hy; omega) (fun y hy hyi => by have := hord y hy; unfold inG at hyi; omega) (by rw [fillN_len]; exact hi), fillN_at _ _ _ _ hi, if_pos (by omega)]
        · exact bridgeGo_in r _ _ _ h g hg hin (by rw [fillN_len]; exact hi)
      · cases h
    · cases h

theorem fillV_between {l : List Int} {a b i : Nat} (ha : a ≠ 0) (hb : b + 1 ≠ l.length) (h1 : a ≤ i) (h2 : i ≤ b) :
    min (l.getD (a - 1) 0) (l.getD (b + 1) 0) ≤ fillV l a b i ∧ fillV l a b i ≤ max (l.getD (a - 1) 0) (l.getD (b + 1) 0) := by
  unfold fillV
  rw [if_neg ha, if_neg hb]
  generalize l.getD (a - 1) 0 = x
  generalize l.getD (b + 1) 0 = y
  have hd : (0 : Int) < ((b + 1 : Nat) : Int) - ((a - 1 : Nat) : Int) := by omega
  generalize hdd : ((b + 1 : Nat) : Int) - ((a - 1 : Nat) : Int) = d at hd ⊢
  have ht : 0 ≤ (i : Int) - ((a - 1 : Nat) : Int) ∧ (i : Int) - ((a - 1 : Nat) : Int) ≤ d := by omega
  generalize (i : Int) - ((a - 1 : Nat) : Int) = t at ht ⊢
  by_cases hxy : x ≤ y
  · have hz : 0 ≤ (y - x) * t := Int.mul_nonneg (by omega) ht.1
    have hle : (y - x) * t ≤ (y - x) * d := Int.mul_le_mul_of_nonneg_left ht.2 (by omega)
    have q1 : 0 ≤ (y - x) * t / d := Int.ediv_nonneg hz (by omega)
    have q2 : (y - x) * t / d ≤ (y - x) := by
      refine Int.ediv_le_of_le_mul hd ?_
      exact hle
    omega
  · have hz : (y - x) * t ≤ 0 := Int.mul_nonpos_of_nonpos_of_nonneg (by omega) ht.1
    have hle : (y - x) * d ≤ (y - x) * t := Int.mul_le_mul_of_nonpos_left (by omega) ht.2
    have q1 : (y - x) ≤ (y - x) * t / d := Int.le_ediv_of_mul_le hd hle
    have q2 : (y - x) * t / d ≤ 0 := by
      have : (y - x) * t / d < 1 := Int.ediv_lt_of_lt_mul hd (by omega)
      omega
    omega
set_option maxRecDepth 100000 in
theorem repPairs51 {H : AHeap} {v : Value} (h : RepA Tryd.prog H 51 v) : ∃ l, Pairs H l v ∧ l.length ≤ maxLen ∧ InP l :=
  RepA.pairs (e := 59) Tryd.underlying51 Tryd.underlying59 (by kernel_rfl) rfl rfl rfl rfl (by kernel_rfl) (by kernel_rfl) (by kernel_rfl) (by kernel_rfl) h

end Go.Lq

namespace Go.Lq
open Go
open Go.Proofs

/-- Positions on a line. -/
def lineL (s st : Int) (n : Nat) : List Int := (List.range n).map fun (i : Nat) => s + (i : Int) * st
theorem lineL_len (s st : Int) (n : Nat) : (lineL s st n).length = n := by simp [lineL]
theorem lineL_get {s st : Int} {n i : Nat} (h : i < n) : (lineL s st n).getD i 0 = s + (i : Int) * st := by
  rw [List.getD_eq_getElem?_getD, lineL, List.getElem?_map, List.getElem?_range h]; rfl
theorem lineL_succ (s st : Int) (n : Nat) : lineL s st (n + 1) = lineL s st n ++ [s + (n : Int) * st] := by
  simp [lineL, List.range_succ]

def fillC (c : Int) : Nat → Nat → List Int → List Int
  | 0, _, out => out
  | k + 1, n, out => fillC c k (n + 1) (out.set n c)
def spoilGo (c : Int) : List (Int × Int) → List Int → List Int
  | [], out => out
  | g :: r, out => spoilGo c r (fillC c (g.2.toNat + 1 - g.1.toNat) g.1.toNat out)
theorem spoilGo_step {c : Int} {gs : List (Int × Int)} {out : List Int} {i : Nat} (h : i < gs.length) : spoilGo c (gs.drop i) out =
    spoilGo c (gs.drop (i + 1)) (fillC c ((gs.getD i (0, 0)).2.toNat + 1 - (gs.getD i (0, 0)).1.toNat) (gs.getD i (0, 0)).1.toNat out) := by
  rw [drop_getD (d := (0, 0)) h]; rfl
theorem spoilGo_end {c : Int} {gs : List (Int × Int)} {out : List Int} {i : Nat} (h : gs.length ≤ i) : spoilGo c (gs.drop i) out = out := by
  rw [drop_end h]; rfl
theorem fillC_len {c : Int} : ∀ (k n : Nat) (out : List Int), (fillC c k n out).length = out.length
  | 0, _, _ => rfl
  | k + 1, n, out => by simp only [fillC]; rw [fillC_len k]; simp
theorem fillC_at {c : Int} : ∀ (k n : Nat) (out : List Int) (i : Nat), i < out.length → (fillC c k n out).getD i 0 = if n ≤ i ∧ i < n + k then c else out.getD i 0
  | 0, n, out, i, hi => by
    rw [if_neg (by omega)]; rfl
  | k + 1, n, out, i, hi => by
    simp only [fillC]
    rw [fillC_at k (n + 1) _ i (by simpa using hi)]
    by_cases h1 : n = i
    · subst h1
      rw [if_neg (by omega), if_pos (by omega)]
      rw [List.getD_eq_getElem?_getD, List.getElem?_set_self hi]; rfl
    · have e : (out.set n c).getD i 0 = out.getD i 0 := by
        rw [List.getD_eq_getElem?_getD, List.getD_eq_getElem?_getD, List.getElem?_set_ne h1]
      rw [e]
      by_cases h2 : n + 1 ≤ i ∧ i < n + 1 + k
      · rw [if_pos h2, if_pos (by omega)]
      · rw [if_neg h2, if_neg (by omega)]
theorem spoilGo_len {c : Int} : ∀ (gs : List (Int × Int)) (out : List Int), (spoilGo c gs out).length = out.length
  | [], _ => rfl
  | g :: r, out => by simp only [spoilGo]; rw [spoilGo_len r, fillC_len]
/-- Either the noise, or what was there; what was there, outside of all gaps. -/
theorem spoilGo_at {c : Int} {i : Nat} : ∀ (gs : List (Int × Int)) (out : List Int), i < out.length → (spoilGo c gs out).getD i 0 = c ∨ (spoilGo c gs out).getD i 0 = out.getD i 0
  | [], _, _ => .inr rfl
  | g :: r, out, hi => by
    simp only [spoilGo]
    rcases spoilGo_at r (fillC c (g.2.toNat + 1 - g.1.toNat) g.1.toNat out) (by rw [fillC_len]; exact hi) with h | h
    · exact .inl h
    · rw [h, fillC_at _ _ _ _ hi]
      split
      · exact .inl rfl
      · exact .inr rfl
theorem spoilGo_out {c : Int} {i : Nat} : ∀ (gs : List (Int × Int)) (out : List Int), i < out.length → (∀ g ∈ gs, 0 ≤ g.1 ∧ g.1 ≤ g.2 ∧ ¬ inG i g) → (spoilGo c gs out).getD i 0 = out.getD i 0
  | [], _, _, _ => rfl
  | g :: r, out, hi, h => by
    simp only [spoilGo]
    rw [spoilGo_out r _ (by rw [fillC_len]; exact hi) fun g hg => h g (by simp [hg]), fillC_at _ _ _ _ hi, if_neg]
    obtain ⟨h1, h2, h3⟩ := h g (by simp)
    unfold inG at h3
    omega

/-- Beside a gap no gap lies. -/
theorem gapsGo_beside {count : Int} : ∀ (l : List (Int × Int)) (last missing : Int), gapsGo count l last missing = 0 → ∀ g ∈ l, ∀ g' ∈ l, ∀ i : Nat, ((i : Int) = g.1 - 1 ∨ (i : Int) = g.2 + 1) → ¬ inG i g'
  | [], _, _, _, g, hg, _, _, _, _ => by cases hg
  | x :: r, last, missing, h, g, hg, g', hg', i, hi => by
    unfold gapsGo at h
    split at h
    · split at h
      · rename_i h1 h2
        have ho := gapsGo_order r _ _ h
        rcases List.mem_cons.1 hg with rfl | hgr
        · rcases List.mem_cons.1 hg' with rfl | hgr'
          · unfold inG; omega
          · have := ho g' hgr'; unfold inG; omega
        · rcases List.mem_cons.1 hg' with rfl | hgr'
          · have a1 := ho g hgr
            have a2 : g.1 ≤ g.2 := by
              obtain ⟨a, b, e, hab, _⟩ : ∃ a b : Int, g = (a, b) ∧ a ≤ b ∧ True := by
                have : ∀ (l : List (Int × Int)) (last missing : Int), gapsGo count l last missing = 0 → ∀ g ∈ l, g.1 ≤ g.2 := by
                  intro l
                  induction l with
                  | nil => intro _ _ _ g hg; cases hg
                  | cons y l ih =>
                    intro last missing h g hg
                    unfold gapsGo at h
                    split at h
                    · split at h
                      · rename_i _ h3
                        rcases List.mem_cons.1 hg with rfl | hg
                        · exact h3.1
                        · exact ih _ _ h g hg
                      · cases h
                    · cases h
                exact ⟨g.1, g.2, rfl, this r _ _ h g hgr, trivial⟩
              rw [e]; exact hab
            unfold inG; omega
          · exact gapsGo_beside r _ _ h g hgr g' hgr' i hi
      · cases h
    · cases h

theorem straight_bridged {s st c : Int} {n : Nat} {gs : List (Int × Int)} (hq : gapsL n gs = 0) (hends : ∀ g ∈ gs, g.1 ≠ 0 ∧ g.2 ≠ (n : Int) - 1) :
    bridgeGo (spoilGo c gs (lineL s st n)) gs (spoilGo c gs (lineL s st n)) = lineL s st n := by
  have hlen : (spoilGo c gs (lineL s st n)).length = n := by rw [spoilGo_len, lineL_len]
  have hok : ∀ g ∈ gs, GapOk n g := gapsGo_ok gs _ _ hq (Int.le_refl _)
  have hord : ∀ g ∈ gs, 0 ≤ g.1 ∧ g.1 ≤ g.2 := fun g hg => by
    obtain ⟨a, b, rfl, hab, _⟩ := hok g hg
    simp only; omega
  refine ext_getD (d := 0) (by rw [bridgeGo_len, hlen, lineL_len]) fun i hi => ?_
  rw [bridgeGo_len, hlen] at hi
  by_cases hin : ∃ g ∈ gs, inG i g
  · obtain ⟨g, hg, hig⟩ := hin
    have hbeside := gapsGo_beside gs _ _ hq g hg
    obtain ⟨a, b, rfl, hab, hbn, _⟩ := hok g hg
    rw [bridgeGo_in (l := spoilGo c gs (lineL s st n)) gs _ _ _ hq _ hg hig (by rw [hlen]; exact hi)]
    obtain ⟨e1, e2⟩ := hends _ hg
    simp only at e1 e2
    simp only [Int.toNat_natCast]
    unfold fillV
    rw [if_neg (by omega), if_neg (by rw [hlen]; omega)]
    have g1 : (spoilGo c gs (lineL s st n)).getD (a - 1) 0 = s + ((a - 1 : Nat) : Int) * st := by
      rw [spoilGo_out gs _ (by rw [lineL_len]; omega) fun g' hg' => ⟨(hord g' hg').1, (hord g' hg').2, hbeside g' hg' (a - 1) (.inl (by simp only; omega))⟩, lineL_get (by omega)]
    have g2 : (spoilGo c gs (lineL s st n)).getD (b + 1) 0 = s + ((b + 1 : Nat) : Int) * st := by
      rw [spoilGo_out gs _ (by rw [lineL_len]; omega) fun g' hg' => ⟨(hord g' hg').1, (hord g' hg').2, hbeside g' hg' (b + 1) (.inr (by simp only; omega))⟩, lineL_get (by omega)]
    rw [g1, g2, lineL_get hi]
    unfold inG at hig
    simp only at hig
    generalize hA : ((a - 1 : Nat) : Int) = A
    generalize hB : ((b + 1 : Nat) : Int) = B
    have hd : B - A ≠ 0 := by omega
    have e3 : (s + B * st - (s + A * st)) = (B - A) * st := by rw [Int.sub_mul]; omega
    rw [e3, Int.mul_assoc, Int.mul_ediv_cancel_left _ hd, Int.mul_comm st, Int.sub_mul]
    omega
  · have hn : ∀ g ∈ gs, ¬ inG i g := fun g hg h => hin ⟨g, hg, h⟩
    rw [bridgeGo_out (l := spoilGo c gs (lineL s st n)) gs _ _ _ hq (fun g hg => (hord g hg).1) hn (by rw [hlen]; exact hi)]
    exact spoilGo_out gs _ (by rw [lineL_len]; exact hi) fun g hg => ⟨(hord g hg).1, (hord g hg).2, hn g hg⟩

theorem velN_len : ∀ (l : List Int), (velGo l).length = l.length - 1
  | [] => rfl
  | [a] => rfl
  | a :: b :: r => by simp [velGo, velN_len (b :: r)]
theorem velGo_getD : ∀ (l : List Int) (i : Nat), i + 1 < l.length → (velGo l).getD i 0 = l.getD (i + 1) 0 - l.getD i 0
  | [], i, h => by simp at h
  | [a], i, h => by simp at h
  | a :: b :: r, 0, _ => by simp [velGo]
  | a :: b :: r, i + 1, h => by
    have := velGo_getD (b :: r) i (by simpa using h)
    simpa [velGo] using this
theorem jumpGo_none {m : Int} : ∀ (l : List Int) (j : Nat), (∀ i : Nat, i + 1 < l.length → -m ≤ l.getD (i + 1) 0 - l.getD i 0 ∧ l.getD (i + 1) 0 - l.getD i 0 ≤ m) → jumpGo m j l = []
  | [], _, _ => rfl
  | [a], _, _ => rfl
  | a :: b :: r, j, h => by
    have h0 := h 0 (by simp)
    simp only [jumpGo]
    rw [if_pos (by simpa using h0)]
    exact jumpGo_none (b :: r) _ fun i hi => by have := h (i + 1) (by simpa using hi); simpa using this

theorem posErr_of {l : List Int} (h : l.length ≤ 200) (hb : ∀ i : Nat, i < l.length → -1000000 ≤ l.getD i 0 ∧ l.getD i 0 ≤ 1000000) : positionsErrL l = 0 := by
  unfold positionsErrL
  rw [if_neg (by omega), if_pos]
  rw [List.all_eq_true]
  intro x hx
  obtain ⟨i, hi, rfl⟩ := List.getElem_of_mem hx
  have := hb i hi
  rw [List.getD_eq_getElem?_getD, List.getElem?_eq_getElem hi] at this
  exact sizedB_t this

set_option maxRecDepth 100000 in
set_option maxHeartbeats 4000000 in
theorem law8 {H : AHeap} {avs : List Value} (hx : Ext H0 H) (h : RepAll Tryd.prog H [84, 51, 3] avs) : ACall Tryd.prog 8 avs H fun v _ => v = .bool true := by
  obtain ⟨v, u, w, rfl, h1, h2, h3⟩ := h.three
  obtain ⟨s, st, n, rfl⟩ := h1.ints3 Tryd.underlying84 Tryd.underlying3 (by kernel_rfl) (by kernel_rfl)
  obtain ⟨gs, hg, hgm, _⟩ := repPairs51 h2
  obtain ⟨c, rfl, _⟩ := h3.int Tryd.underlying3
  (refine a8 ?_; simp only [n8, List.replicate, List.length_cons, List.length_nil, List.cons_append, List.nil_append])
  ((repeat (first | refine q1 ?_ | refine q2 ?_ | refine q3 ?_ | refine q4 ?_ | refine q5 ?_ | refine q6 ?_ | refine q7 ?_ | refine q8 ?_ | refine q9 ?_ | refine qa ?_ | refine qb ?_ | refine qc ?_ | refine qd ?_ | refine qe (by decide) ?_ | refine qf ?_ | refine qg ?_)); (repeat ((first | apply aops_all | apply adraw_all); (simp (disch := first | exact List.all_nil | omega | (simp only [go_sem]; done) | (simp only [ln, List.length_map]; omega) | (repeat' first | assumption | exact Ext.refl _ | refine Ext.app ?_ _)) only [go_sem, box_3]; rfl); (repeat (first | refine q1 ?_ | refine q2 ?_ | refine q3 ?_ | refine q4 ?_ | refine q5 ?_ | refine q6 ?_ | refine q7 ?_ | refine q8 ?_ | refine q9 ?_ | refine qa ?_ | refine qb ?_ | refine qc ?_ | refine qd ?_ | refine qe (by decide) ?_ | refine qf ?_ | refine qg ?_)))); (try ((first | apply aops_until | apply adraw_until); (simp (disch := first | exact List.all_nil | omega | (simp only [go_sem]; done) | (simp only [ln, List.length_map]; omega) | (repeat' first | assumption | exact Ext.refl _ | refine Ext.app ?_ _)) only [go_sem, box_3]; rfl))))
  refine aops_call_to (awake_c (hx.app _)) ?_
  have hbox : (H ++ [.cells true 0 [.int .i64 s, .int .i64 st, .int .i64 n]])[H.length]? = some (AObj.cells true 0 [.int .i64 s, .int .i64 st, .int .i64 n]) := at_new
  replace hg := hg.ext (Ext.app (Ext.refl H) [.cells true 0 [.int .i64 s, .int .i64 st, .int .i64 n]])
  generalize (H ++ [.cells true 0 [.int .i64 s, .int .i64 st, .int .i64 n]] : AHeap) = G at hbox hg
  ((repeat (first | refine q1 ?_ | refine q2 ?_ | refine q3 ?_ | refine q4 ?_ | refine q5 ?_ | refine q6 ?_ | refine q7 ?_ | refine q8 ?_ | refine q9 ?_ | refine qa ?_ | refine qb ?_ | refine qc ?_ | refine qd ?_ | refine qe (by decide) ?_ | refine qf ?_ | refine qg ?_)); (repeat ((first | apply aops_all | apply adraw_all); (simp (disch := first | exact List.all_nil | omega | (simp only [go_sem]; done) | (simp only [ln, List.length_map]; omega) | (repeat' first | assumption | exact Ext.refl _ | refine Ext.app ?_ _)) only [go_sem]; rfl); (repeat (first | refine q1 ?_ | refine q2 ?_ | refine q3 ?_ | refine q4 ?_ | refine q5 ?_ | refine q6 ?_ | refine q7 ?_ | refine q8 ?_ | refine q9 ?_ | refine qa ?_ | refine qb ?_ | refine qc ?_ | refine qd ?_ | refine qe (by decide) ?_ | refine qf ?_ | refine qg ?_)))); (try ((first | apply aops_until | apply adraw_until); (simp (disch := first | exact List.all_nil | omega | (simp only [go_sem]; done) | (simp only [ln, List.length_map]; omega) | (repeat' first | assumption | exact Ext.refl _ | refine Ext.app ?_ _)) only [go_sem]; rfl))))
  refine cond_f rfl ?_
  have ia : ∀ k : Nat, k < 3 → idxAR 3 1 (.pointer (some ⟨H.length, 0, none⟩)) (.int .i64 (k : Int)) G = some (.pointer (some ⟨H.length, k, none⟩), G) := fun k hk => by
    rw [idxA_at hk]; simp
  have ia0 := ia 0 (by omega)
  have ia1 := ia 1 (by omega)
  have ia2 := ia 2 (by omega)
  simp only [Int.natCast_zero, Int.natCast_one, Int.cast_ofNat_Int] at ia0 ia1 ia2
  by_cases hs : -10000 ≤ s ∧ s ≤ 10000
  rotate_left 1
  · ((repeat (first | refine q1 ?_ | refine q2 ?_ | refine q3 ?_ | refine q4 ?_ | refine q5 ?_ | refine q6 ?_ | refine q7 ?_ | refine q8 ?_ | refine q9 ?_ | refine qa ?_ | refine qb ?_ | refine qc ?_ | refine qd ?_ | refine qe (by decide) ?_ | refine qf ?_ | refine qg ?_)); (repeat ((first | apply aops_all | apply adraw_all); (simp (disch := first | exact List.all_nil | omega | (simp only [go_sem]; done) | (simp only [ln, List.length_map]; omega) | (repeat' first | assumption | exact Ext.refl _ | refine Ext.app ?_ _)) only [go_sem, r_idxA, ia0, ia1, ia2, load_at hbox]; rfl); (repeat (first | refine q1 ?_ | refine q2 ?_ | refine q3 ?_ | refine q4 ?_ | refine q5 ?_ | refine q6 ?_ | refine q7 ?_ | refine q8 ?_ | refine q9 ?_ | refine qa ?_ | refine qb ?_ | refine qc ?_ | refine qd ?_ | refine qe (by decide) ?_ | refine qf ?_ | refine qg ?_)))); (try ((first | apply aops_until | apply adraw_until); (simp (disch := first | exact List.all_nil | omega | (simp only [go_sem]; done) | (simp only [ln, List.length_map]; omega) | (repeat' first | assumption | exact Ext.refl _ | refine Ext.app ?_ _)) only [go_sem, r_idxA, ia0, ia1, ia2, load_at hbox]; rfl))))
    refine aops_call_to (bwithin_c _ _ _) ?_
    ((repeat (first | refine q1 ?_ | refine q2 ?_ | refine q3 ?_ | refine q4 ?_ | refine q5 ?_ | refine q6 ?_ | refine q7 ?_ | refine q8 ?_ | refine q9 ?_ | refine qa ?_ | refine qb ?_ | refine qc ?_ | refine qd ?_ | refine qe (by decide) ?_ | refine qf ?_ | refine qg ?_)); (repeat ((first | apply aops_all | apply adraw_all); (simp (disch := first | exact List.all_nil | omega | (simp only [go_sem]; done) | (simp only [ln, List.length_map]; omega) | (repeat' first | assumption | exact Ext.refl _ | refine Ext.app ?_ _)) only [go_sem, dec_f hs]; rfl); (repeat (first | refine q1 ?_ | refine q2 ?_ | refine q3 ?_ | refine q4 ?_ | refine q5 ?_ | refine q6 ?_ | refine q7 ?_ | refine q8 ?_ | refine q9 ?_ | refine qa ?_ | refine qb ?_ | refine qc ?_ | refine qd ?_ | refine qe (by decide) ?_ | refine qf ?_ | refine qg ?_)))); (try ((first | apply aops_until | apply adraw_until); (simp (disch := first | exact List.all_nil | omega | (simp only [go_sem]; done) | (simp only [ln, List.length_map]; omega) | (repeat' first | assumption | exact Ext.refl _ | refine Ext.app ?_ _)) only [go_sem, dec_f hs]; rfl))))
    refine cond_t rfl ?_
    ((repeat (first | refine q1 ?_ | refine q2 ?_ | refine q3 ?_ | refine q4 ?_ | refine q5 ?_ | refine q6 ?_ | refine q7 ?_ | refine q8 ?_ | refine q9 ?_ | refine qa ?_ | refine qb ?_ | refine qc ?_ | refine qd ?_ | refine qe (by decide) ?_ | refine qf ?_ | refine qg ?_)); (repeat ((first | apply aops_all | apply adraw_all); (simp (disch := first | exact List.all_nil | omega | (simp only [go_sem]; done) | (simp only [ln, List.length_map]; omega) | (repeat' first | assumption | exact Ext.refl _ | refine Ext.app ?_ _)) only [go_sem]; rfl); (repeat (first | refine q1 ?_ | refine q2 ?_ | refine q3 ?_ | refine q4 ?_ | refine q5 ?_ | refine q6 ?_ | refine q7 ?_ | refine q8 ?_ | refine q9 ?_ | refine qa ?_ | refine qb ?_ | refine qc ?_ | refine qd ?_ | refine qe (by decide) ?_ | refine qf ?_ | refine qg ?_)))); (try ((first | apply aops_until | apply adraw_until); (simp (disch := first | exact List.all_nil | omega | (simp only [go_sem]; done) | (simp only [ln, List.length_map]; omega) | (repeat' first | assumption | exact Ext.refl _ | refine Ext.app ?_ _)) only [go_sem]; rfl))))
    exact fin_1 rfl
  ((repeat (first | refine q1 ?_ | refine q2 ?_ | refine q3 ?_ | refine q4 ?_ | refine q5 ?_ | refine q6 ?_ | refine q7 ?_ | refine q8 ?_ | refine q9 ?_ | refine qa ?_ | refine qb ?_ | refine qc ?_ | refine qd ?_ | refine qe (by decide) ?_ | refine qf ?_ | refine qg ?_)); (repeat ((first | apply aops_all | apply adraw_all); (simp (disch := first | exact List.all_nil | omega | (simp only [go_sem]; done) | (simp only [ln, List.length_map]; omega) | (repeat' first | assumption | exact Ext.refl _ | refine Ext.app ?_ _)) only [go_sem, r_idxA, ia0, ia1, ia2, load_at hbox]; rfl); (repeat (first | refine q1 ?_ | refine q2 ?_ | refine q3 ?_ | refine q4 ?_ | refine q5 ?_ | refine q6 ?_ | refine q7 ?_ | refine q8 ?_ | refine q9 ?_ | refine qa ?_ | refine qb ?_ | refine qc ?_ | refine qd ?_ | refine qe (by decide) ?_ | refine qf ?_ | refine qg ?_)))); (try ((first | apply aops_until | apply adraw_until); (simp (disch := first | exact List.all_nil | omega | (simp only [go_sem]; done) | (simp only [ln, List.length_map]; omega) | (repeat' first | assumption | exact Ext.refl _ | refine Ext.app ?_ _)) only [go_sem, r_idxA, ia0, ia1, ia2, load_at hbox]; rfl))))
  refine aops_call_to (bwithin_c _ _ _) ?_
  ((repeat (first | refine q1 ?_ | refine q2 ?_ | refine q3 ?_ | refine q4 ?_ | refine q5 ?_ | refine q6 ?_ | refine q7 ?_ | refine q8 ?_ | refine q9 ?_ | refine qa ?_ | refine qb ?_ | refine qc ?_ | refine qd ?_ | refine qe (by decide) ?_ | refine qf ?_ | refine qg ?_)); (repeat ((first | apply aops_all | apply adraw_all); (simp (disch := first | exact List.all_nil | omega | (simp only [go_sem]; done) | (simp only [ln, List.length_map]; omega) | (repeat' first | assumption | exact Ext.refl _ | refine Ext.app ?_ _)) only [go_sem, dec_t hs]; rfl); (repeat (first | refine q1 ?_ | refine q2 ?_ | refine q3 ?_ | refine q4 ?_ | refine q5 ?_ | refine q6 ?_ | refine q7 ?_ | refine q8 ?_ | refine q9 ?_ | refine qa ?_ | refine qb ?_ | refine qc ?_ | refine qd ?_ | refine qe (by decide) ?_ | refine qf ?_ | refine qg ?_)))); (try ((first | apply aops_until | apply adraw_until); (simp (disch := first | exact List.all_nil | omega | (simp only [go_sem]; done) | (simp only [ln, List.length_map]; omega) | (repeat' first | assumption | exact Ext.refl _ | refine Ext.app ?_ _)) only [go_sem, dec_t hs]; rfl))))
  refine aops_call_to (bwithin_c _ _ _) ?_
  by_cases hst : -1000 ≤ st ∧ st ≤ 1000
  rotate_left 1
  · ((repeat (first | refine q1 ?_ | refine q2 ?_ | refine q3 ?_ | refine q4 ?_ | refine q5 ?_ | refine q6 ?_ | refine q7 ?_ | refine q8 ?_ | refine q9 ?_ | refine qa ?_ | refine qb ?_ | refine qc ?_ | refine qd ?_ | refine qe (by decide) ?_ | refine qf ?_ | refine qg ?_)); (repeat ((first | apply aops_all | apply adraw_all); (simp (disch := first | exact List.all_nil | omega | (simp only [go_sem]; done) | (simp only [ln, List.length_map]; omega) | (repeat' first | assumption | exact Ext.refl _ | refine Ext.app ?_ _)) only [go_sem, dec_f hst]; rfl); (repeat (first | refine q1 ?_ | refine q2 ?_ | refine q3 ?_ | refine q4 ?_ | refine q5 ?_ | refine q6 ?_ | refine q7 ?_ | refine q8 ?_ | refine q9 ?_ | refine qa ?_ | refine qb ?_ | refine qc ?_ | refine qd ?_ | refine qe (by decide) ?_ | refine qf ?_ | refine qg ?_)))); (try ((first | apply aops_until | apply adraw_until); (simp (disch := first | exact List.all_nil | omega | (simp only [go_sem]; done) | (simp only [ln, List.length_map]; omega) | (repeat' first | assumption | exact Ext.refl _ | refine Ext.app ?_ _)) only [go_sem, dec_f hst]; rfl))))
    refine cond_t rfl ?_
    ((repeat (first | refine q1 ?_ | refine q2 ?_ | refine q3 ?_ | refine q4 ?_ | refine q5 ?_ | refine q6 ?_ | refine q7 ?_ | refine q8 ?_ | refine q9 ?_ | refine qa ?_ | refine qb ?_ | refine qc ?_ | refine qd ?_ | refine qe (by decide) ?_ | refine qf ?_ | refine qg ?_)); (repeat ((first | apply aops_all | apply adraw_all); (simp (disch := first | exact List.all_nil | omega | (simp only [go_sem]; done) | (simp only [ln, List.length_map]; omega) | (repeat' first | assumption | exact Ext.refl _ | refine Ext.app ?_ _)) only [go_sem]; rfl); (repeat (first | refine q1 ?_ | refine q2 ?_ | refine q3 ?_ | refine q4 ?_ | refine q5 ?_ | refine q6 ?_ | refine q7 ?_ | refine q8 ?_ | refine q9 ?_ | refine qa ?_ | refine qb ?_ | refine qc ?_ | refine qd ?_ | refine qe (by decide) ?_ | refine qf ?_ | refine qg ?_)))); (try ((first | apply aops_until | apply adraw_until); (simp (disch := first | exact List.all_nil | omega | (simp only [go_sem]; done) | (simp only [ln, List.length_map]; omega) | (repeat' first | assumption | exact Ext.refl _ | refine Ext.app ?_ _)) only [go_sem]; rfl))))
    exact fin_1 rfl
  ((repeat (first | refine q1 ?_ | refine q2 ?_ | refine q3 ?_ | refine q4 ?_ | refine q5 ?_ | refine q6 ?_ | refine q7 ?_ | refine q8 ?_ | refine q9 ?_ | refine qa ?_ | refine qb ?_ | refine qc ?_ | refine qd ?_ | refine qe (by decide) ?_ | refine qf ?_ | refine qg ?_)); (repeat ((first | apply aops_all | apply adraw_all); (simp (disch := first | exact List.all_nil | omega | (simp only [go_sem]; done) | (simp only [ln, List.length_map]; omega) | (repeat' first | assumption | exact Ext.refl _ | refine Ext.app ?_ _)) only [go_sem, dec_t hst]; rfl); (repeat (first | refine q1 ?_ | refine q2 ?_ | refine q3 ?_ | refine q4 ?_ | refine q5 ?_ | refine q6 ?_ | refine q7 ?_ | refine q8 ?_ | refine q9 ?_ | refine qa ?_ | refine qb ?_ | refine qc ?_ | refine qd ?_ | refine qe (by decide) ?_ | refine qf ?_ | refine qg ?_)))); (try ((first | apply aops_until | apply adraw_until); (simp (disch := first | exact List.all_nil | omega | (simp only [go_sem]; done) | (simp only [ln, List.length_map]; omega) | (repeat' first | assumption | exact Ext.refl _ | refine Ext.app ?_ _)) only [go_sem, dec_t hst]; rfl))))
  refine aops_call_to (bwithin_c _ _ _) ?_
  by_cases hn : 2 ≤ n ∧ n ≤ 60
  rotate_left 1
  · ((repeat (first | refine q1 ?_ | refine q2 ?_ | refine q3 ?_ | refine q4 ?_ | refine q5 ?_ | refine q6 ?_ | refine q7 ?_ | refine q8 ?_ | refine q9 ?_ | refine qa ?_ | refine qb ?_ | refine qc ?_ | refine qd ?_ | refine qe (by decide) ?_ | refine qf ?_ | refine qg ?_)); (repeat ((first | apply aops_all | apply adraw_all); (simp (disch := first | exact List.all_nil | omega | (simp only [go_sem]; done) | (simp only [ln, List.length_map]; omega) | (repeat' first | assumption | exact Ext.refl _ | refine Ext.app ?_ _)) only [go_sem, dec_f hn]; rfl); (repeat (first | refine q1 ?_ | refine q2 ?_ | refine q3 ?_ | refine q4 ?_ | refine q5 ?_ | refine q6 ?_ | refine q7 ?_ | refine q8 ?_ | refine q9 ?_ | refine qa ?_ | refine qb ?_ | refine qc ?_ | refine qd ?_ | refine qe (by decide) ?_ | refine qf ?_ | refine qg ?_)))); (try ((first | apply aops_until | apply adraw_until); (simp (disch := first | exact List.all_nil | omega | (simp only [go_sem]; done) | (simp only [ln, List.length_map]; omega) | (repeat' first | assumption | exact Ext.refl _ | refine Ext.app ?_ _)) only [go_sem, dec_f hn]; rfl))))
    refine cond_t rfl ?_
    ((repeat (first | refine q1 ?_ | refine q2 ?_ | refine q3 ?_ | refine q4 ?_ | refine q5 ?_ | refine q6 ?_ | refine q7 ?_ | refine q8 ?_ | refine q9 ?_ | refine qa ?_ | refine qb ?_ | refine qc ?_ | refine qd ?_ | refine qe (by decide) ?_ | refine qf ?_ | refine qg ?_)); (repeat ((first | apply aops_all | apply adraw_all); (simp (disch := first | exact List.all_nil | omega | (simp only [go_sem]; done) | (simp only [ln, List.length_map]; omega) | (repeat' first | assumption | exact Ext.refl _ | refine Ext.app ?_ _)) only [go_sem]; rfl); (repeat (first | refine q1 ?_ | refine q2 ?_ | refine q3 ?_ | refine q4 ?_ | refine q5 ?_ | refine q6 ?_ | refine q7 ?_ | refine q8 ?_ | refine q9 ?_ | refine qa ?_ | refine qb ?_ | refine qc ?_ | refine qd ?_ | refine qe (by decide) ?_ | refine qf ?_ | refine qg ?_)))); (try ((first | apply aops_until | apply adraw_until); (simp (disch := first | exact List.all_nil | omega | (simp only [go_sem]; done) | (simp only [ln, List.length_map]; omega) | (repeat' first | assumption | exact Ext.refl _ | refine Ext.app ?_ _)) only [go_sem]; rfl))))
    exact fin_1 rfl
  obtain ⟨N, rfl⟩ := Int.eq_ofNat_of_zero_le (show 0 ≤ n by omega)
  by_cases hgl : gs.length ≤ 10
  rotate_left 1
  · ((repeat (first | refine q1 ?_ | refine q2 ?_ | refine q3 ?_ | refine q4 ?_ | refine q5 ?_ | refine q6 ?_ | refine q7 ?_ | refine q8 ?_ | refine q9 ?_ | refine qa ?_ | refine qb ?_ | refine qc ?_ | refine qd ?_ | refine qe (by decide) ?_ | refine qf ?_ | refine qg ?_)); (repeat ((first | apply aops_all | apply adraw_all); (simp (disch := first | exact List.all_nil | omega | (simp only [go_sem]; done) | (simp only [ln, List.length_map]; omega) | (repeat' first | assumption | exact Ext.refl _ | refine Ext.app ?_ _)) only [go_sem, hg.len, hg.idx, hg.load, dec_t hn, dec_t (show 10 < (gs.length : Int) by omega)]; rfl); (repeat (first | refine q1 ?_ | refine q2 ?_ | refine q3 ?_ | refine q4 ?_ | refine q5 ?_ | refine q6 ?_ | refine q7 ?_ | refine q8 ?_ | refine q9 ?_ | refine qa ?_ | refine qb ?_ | refine qc ?_ | refine qd ?_ | refine qe (by decide) ?_ | refine qf ?_ | refine qg ?_)))); (try ((first | apply aops_until | apply adraw_until); (simp (disch := first | exact List.all_nil | omega | (simp only [go_sem]; done) | (simp only [ln, List.length_map]; omega) | (repeat' first | assumption | exact Ext.refl _ | refine Ext.app ?_ _)) only [go_sem, hg.len, hg.idx, hg.load, dec_t hn, dec_t (show 10 < (gs.length : Int) by omega)]; rfl))))
    refine cond_t rfl ?_
    ((repeat (first | refine q1 ?_ | refine q2 ?_ | refine q3 ?_ | refine q4 ?_ | refine q5 ?_ | refine q6 ?_ | refine q7 ?_ | refine q8 ?_ | refine q9 ?_ | refine qa ?_ | refine qb ?_ | refine qc ?_ | refine qd ?_ | refine qe (by decide) ?_ | refine qf ?_ | refine qg ?_)); (repeat ((first | apply aops_all | apply adraw_all); (simp (disch := first | exact List.all_nil | omega | (simp only [go_sem]; done) | (simp only [ln, List.length_map]; omega) | (repeat' first | assumption | exact Ext.refl _ | refine Ext.app ?_ _)) only [go_sem]; rfl); (repeat (first | refine q1 ?_ | refine q2 ?_ | refine q3 ?_ | refine q4 ?_ | refine q5 ?_ | refine q6 ?_ | refine q7 ?_ | refine q8 ?_ | refine q9 ?_ | refine qa ?_ | refine qb ?_ | refine qc ?_ | refine qd ?_ | refine qe (by decide) ?_ | refine qf ?_ | refine qg ?_)))); (try ((first | apply aops_until | apply adraw_until); (simp (disch := first | exact List.all_nil | omega | (simp only [go_sem]; done) | (simp only [ln, List.length_map]; omega) | (repeat' first | assumption | exact Ext.refl _ | refine Ext.app ?_ _)) only [go_sem]; rfl))))
    exact fin_1 rfl
  ((repeat (first | refine q1 ?_ | refine q2 ?_ | refine q3 ?_ | refine q4 ?_ | refine q5 ?_ | refine q6 ?_ | refine q7 ?_ | refine q8 ?_ | refine q9 ?_ | refine qa ?_ | refine qb ?_ | refine qc ?_ | refine qd ?_ | refine qe (by decide) ?_ | refine qf ?_ | refine qg ?_)); (repeat ((first | apply aops_all | apply adraw_all); (simp (disch := first | exact List.all_nil | omega | (simp only [go_sem]; done) | (simp only [ln, List.length_map]; omega) | (repeat' first | assumption | exact Ext.refl _ | refine Ext.app ?_ _)) only [go_sem, hg.len, hg.idx, hg.load, dec_t hn, dec_f (show ¬ 10 < (gs.length : Int) by omega)]; rfl); (repeat (first | refine q1 ?_ | refine q2 ?_ | refine q3 ?_ | refine q4 ?_ | refine q5 ?_ | refine q6 ?_ | refine q7 ?_ | refine q8 ?_ | refine q9 ?_ | refine qa ?_ | refine qb ?_ | refine qc ?_ | refine qd ?_ | refine qe (by decide) ?_ | refine qf ?_ | refine qg ?_)))); (try ((first | apply aops_until | apply adraw_until); (simp (disch := first | exact List.all_nil | omega | (simp only [go_sem]; done) | (simp only [ln, List.length_map]; omega) | (repeat' first | assumption | exact Ext.refl _ | refine Ext.app ?_ _)) only [go_sem, hg.len, hg.idx, hg.load, dec_t hn, dec_f (show ¬ 10 < (gs.length : Int) by omega)]; rfl))))
  refine aops_call_to (refGapsErr_c hg (by omega) (by omega)) ?_
  by_cases hq : gapsL N gs = 0
  rotate_left 1
  · ((repeat (first | refine q1 ?_ | refine q2 ?_ | refine q3 ?_ | refine q4 ?_ | refine q5 ?_ | refine q6 ?_ | refine q7 ?_ | refine q8 ?_ | refine q9 ?_ | refine qa ?_ | refine qb ?_ | refine qc ?_ | refine qd ?_ | refine qe (by decide) ?_ | refine qf ?_ | refine qg ?_)); (repeat ((first | apply aops_all | apply adraw_all); (simp (disch := first | exact List.all_nil | omega | (simp only [go_sem]; done) | (simp only [ln, List.length_map]; omega) | (repeat' first | assumption | exact Ext.refl _ | refine Ext.app ?_ _)) only [go_sem, dec_t hq]; rfl); (repeat (first | refine q1 ?_ | refine q2 ?_ | refine q3 ?_ | refine q4 ?_ | refine q5 ?_ | refine q6 ?_ | refine q7 ?_ | refine q8 ?_ | refine q9 ?_ | refine qa ?_ | refine qb ?_ | refine qc ?_ | refine qd ?_ | refine qe (by decide) ?_ | refine qf ?_ | refine qg ?_)))); (try ((first | apply aops_until | apply adraw_until); (simp (disch := first | exact List.all_nil | omega | (simp only [go_sem]; done) | (simp only [ln, List.length_map]; omega) | (repeat' first | assumption | exact Ext.refl _ | refine Ext.app ?_ _)) only [go_sem, dec_t hq]; rfl))))
    refine cond_t rfl ?_
    ((repeat (first | refine q1 ?_ | refine q2 ?_ | refine q3 ?_ | refine q4 ?_ | refine q5 ?_ | refine q6 ?_ | refine q7 ?_ | refine q8 ?_ | refine q9 ?_ | refine qa ?_ | refine qb ?_ | refine qc ?_ | refine qd ?_ | refine qe (by decide) ?_ | refine qf ?_ | refine qg ?_)); (repeat ((first | apply aops_all | apply adraw_all); (simp (disch := first | exact List.all_nil | omega | (simp only [go_sem]; done) | (simp only [ln, List.length_map]; omega) | (repeat' first | assumption | exact Ext.refl _ | refine Ext.app ?_ _)) only [go_sem]; rfl); (repeat (first | refine q1 ?_ | refine q2 ?_ | refine q3 ?_ | refine q4 ?_ | refine q5 ?_ | refine q6 ?_ | refine q7 ?_ | refine q8 ?_ | refine q9 ?_ | refine qa ?_ | refine qb ?_ | refine qc ?_ | refine qd ?_ | refine qe (by decide) ?_ | refine qf ?_ | refine qg ?_)))); (try ((first | apply aops_until | apply adraw_until); (simp (disch := first | exact List.all_nil | omega | (simp only [go_sem]; done) | (simp only [ln, List.length_map]; omega) | (repeat' first | assumption | exact Ext.refl _ | refine Ext.app ?_ _)) only [go_sem]; rfl))))
    exact fin_1 rfl
  ((repeat (first | refine q1 ?_ | refine q2 ?_ | refine q3 ?_ | refine q4 ?_ | refine q5 ?_ | refine q6 ?_ | refine q7 ?_ | refine q8 ?_ | refine q9 ?_ | refine qa ?_ | refine qb ?_ | refine qc ?_ | refine qd ?_ | refine qe (by decide) ?_ | refine qf ?_ | refine qg ?_)); (repeat ((first | apply aops_all | apply adraw_all); (simp (disch := first | exact List.all_nil | omega | (simp only [go_sem]; done) | (simp only [ln, List.length_map]; omega) | (repeat' first | assumption | exact Ext.refl _ | refine Ext.app ?_ _)) only [go_sem, hq]; rfl); (repeat (first | refine q1 ?_ | refine q2 ?_ | refine q3 ?_ | refine q4 ?_ | refine q5 ?_ | refine q6 ?_ | refine q7 ?_ | refine q8 ?_ | refine q9 ?_ | refine qa ?_ | refine qb ?_ | refine qc ?_ | refine qd ?_ | refine qe (by decide) ?_ | refine qf ?_ | refine qg ?_)))); (try ((first | apply aops_until | apply adraw_until); (simp (disch := first | exact List.all_nil | omega | (simp only [go_sem]; done) | (simp only [ln, List.length_map]; omega) | (repeat' first | assumption | exact Ext.refl _ | refine Ext.app ?_ _)) only [go_sem, hq]; rfl))))
  refine aops_call_to (bwithin_c _ _ _) ?_
  by_cases hc : -100000 ≤ c ∧ c ≤ 100000
  rotate_left 1
  · ((repeat (first | refine q1 ?_ | refine q2 ?_ | refine q3 ?_ | refine q4 ?_ | refine q5 ?_ | refine q6 ?_ | refine q7 ?_ | refine q8 ?_ | refine q9 ?_ | refine qa ?_ | refine qb ?_ | refine qc ?_ | refine qd ?_ | refine qe (by decide) ?_ | refine qf ?_ | refine qg ?_)); (repeat ((first | apply aops_all | apply adraw_all); (simp (disch := first | exact List.all_nil | omega | (simp only [go_sem]; done) | (simp only [ln, List.length_map]; omega) | (repeat' first | assumption | exact Ext.refl _ | refine Ext.app ?_ _)) only [go_sem, dec_f hc]; rfl); (repeat (first | refine q1 ?_ | refine q2 ?_ | refine q3 ?_ | refine q4 ?_ | refine q5 ?_ | refine q6 ?_ | refine q7 ?_ | refine q8 ?_ | refine q9 ?_ | refine qa ?_ | refine qb ?_ | refine qc ?_ | refine qd ?_ | refine qe (by decide) ?_ | refine qf ?_ | refine qg ?_)))); (try ((first | apply aops_until | apply adraw_until); (simp (disch := first | exact List.all_nil | omega | (simp only [go_sem]; done) | (simp only [ln, List.length_map]; omega) | (repeat' first | assumption | exact Ext.refl _ | refine Ext.app ?_ _)) only [go_sem, dec_f hc]; rfl))))
    refine cond_t rfl ?_
    ((repeat (first | refine q1 ?_ | refine q2 ?_ | refine q3 ?_ | refine q4 ?_ | refine q5 ?_ | refine q6 ?_ | refine q7 ?_ | refine q8 ?_ | refine q9 ?_ | refine qa ?_ | refine qb ?_ | refine qc ?_ | refine qd ?_ | refine qe (by decide) ?_ | refine qf ?_ | refine qg ?_)); (repeat ((first | apply aops_all | apply adraw_all); (simp (disch := first | exact List.all_nil | omega | (simp only [go_sem]; done) | (simp only [ln, List.length_map]; omega) | (repeat' first | assumption | exact Ext.refl _ | refine Ext.app ?_ _)) only [go_sem]; rfl); (repeat (first | refine q1 ?_ | refine q2 ?_ | refine q3 ?_ | refine q4 ?_ | refine q5 ?_ | refine q6 ?_ | refine q7 ?_ | refine q8 ?_ | refine q9 ?_ | refine qa ?_ | refine qb ?_ | refine qc ?_ | refine qd ?_ | refine qe (by decide) ?_ | refine qf ?_ | refine qg ?_)))); (try ((first | apply aops_until | apply adraw_until); (simp (disch := first | exact List.all_nil | omega | (simp only [go_sem]; done) | (simp only [ln, List.length_map]; omega) | (repeat' first | assumption | exact Ext.refl _ | refine Ext.app ?_ _)) only [go_sem]; rfl))))
    exact fin_1 rfl
  ((repeat (first | refine q1 ?_ | refine q2 ?_ | refine q3 ?_ | refine q4 ?_ | refine q5 ?_ | refine q6 ?_ | refine q7 ?_ | refine q8 ?_ | refine q9 ?_ | refine qa ?_ | refine qb ?_ | refine qc ?_ | refine qd ?_ | refine qe (by decide) ?_ | refine qf ?_ | refine qg ?_)); (repeat ((first | apply aops_all | apply adraw_all); (simp (disch := first | exact List.all_nil | omega | (simp only [go_sem]; done) | (simp only [ln, List.length_map]; omega) | (repeat' first | assumption | exact Ext.refl _ | refine Ext.app ?_ _)) only [go_sem, dec_t hc]; rfl); (repeat (first | refine q1 ?_ | refine q2 ?_ | refine q3 ?_ | refine q4 ?_ | refine q5 ?_ | refine q6 ?_ | refine q7 ?_ | refine q8 ?_ | refine q9 ?_ | refine qa ?_ | refine qb ?_ | refine qc ?_ | refine qd ?_ | refine qe (by decide) ?_ | refine qf ?_ | refine qg ?_)))); (try ((first | apply aops_until | apply adraw_until); (simp (disch := first | exact List.all_nil | omega | (simp only [go_sem]; done) | (simp only [ln, List.length_map]; omega) | (repeat' first | assumption | exact Ext.refl _ | refine Ext.app ?_ _)) only [go_sem, dec_t hc]; rfl))))
  refine cond_f rfl ?_
  ((repeat (first | refine q1 ?_ | refine q2 ?_ | refine q3 ?_ | refine q4 ?_ | refine q5 ?_ | refine q6 ?_ | refine q7 ?_ | refine q8 ?_ | refine q9 ?_ | refine qa ?_ | refine qb ?_ | refine qc ?_ | refine qd ?_ | refine qe (by decide) ?_ | refine qf ?_ | refine qg ?_)); (repeat ((first | apply aops_all | apply adraw_all); (simp (disch := first | exact List.all_nil | omega | (simp only [go_sem]; done) | (simp only [ln, List.length_map]; omega) | (repeat' first | assumption | exact Ext.refl _ | refine Ext.app ?_ _)) only [go_sem]; rfl); (repeat (first | refine q1 ?_ | refine q2 ?_ | refine q3 ?_ | refine q4 ?_ | refine q5 ?_ | refine q6 ?_ | refine q7 ?_ | refine q8 ?_ | refine q9 ?_ | refine qa ?_ | refine qb ?_ | refine qc ?_ | refine qd ?_ | refine qe (by decide) ?_ | refine qf ?_ | refine qg ?_)))); (try ((first | apply aops_until | apply adraw_until); (simp (disch := first | exact List.all_nil | omega | (simp only [go_sem]; done) | (simp only [ln, List.length_map]; omega) | (repeat' first | assumption | exact Ext.refl _ | refine Ext.app ?_ _)) only [go_sem]; rfl))))
  refine awp_loop_n [false, true, true, false, false, false, false, true, true, true, true, true, false, false, false, false, false, false, false, false, false, false, false, false, false, false, false, false, false, false, false, false, false, false, false, false, false, false, false, false, false, false, false, false, false, false, false, false, false, false, false, false, false, false, false, false, false, false, false, false, false, false, false, false, false, false, false, false, false, false, false, false, false, false, false, false, false, false, false, false, false, false, false, false, false, false, false, false, false, false, false, false, false, false, false, false, false, false, false, false, false, false, false, false, false, false, false, false, false, false, false, false, false, false, false, false, false, false, false, false, false, false, false, false, false, false, false, false, false, false, false, false, false, false, false, false, false, false, false, false, false, false, false, false, false, false, false, false, false, false, false, false, false, false, false, false, false, false, false, false, false, false, false, false, false, false, false, false, false, false, false, false, false, false, false, false] N (fun i e H' => ∃ out v1, e = [junk, u, .int .i64 c, junk, junk, junk, junk, .int .i64 s, .int .i64 st, .int .i64 N, v1, .int .i64 i, junk, junk, junk, junk, junk, junk, junk, junk, junk, junk, junk, junk, junk, junk, junk, junk, junk, junk, junk, junk, junk, junk, junk, junk, junk, junk, junk, junk, junk, junk, junk, junk, junk, junk, junk, junk, junk, junk, junk, junk, junk, junk, junk, junk, junk, junk, junk, junk, junk, junk, junk, junk, junk, junk, junk, junk, junk, junk, junk, junk, junk, junk, junk, junk, junk, junk, junk, junk, junk, junk, junk, junk, junk, junk, junk, junk, junk, junk, junk, junk, junk, junk, junk, junk, junk, junk, junk, junk, junk, junk, junk, junk, junk, junk, junk, junk, junk, junk, junk, junk, junk, junk, junk, junk, junk, junk, junk, junk, junk, junk, junk, junk, junk, junk, junk, junk, junk, junk, junk, junk, junk, junk, junk, junk, junk, junk, junk, junk, junk, junk, junk, junk, junk, junk, junk, junk, junk, junk, junk, junk, junk, junk, junk, junk, junk, junk, junk, junk, junk, junk, junk, junk, junk, junk, junk, junk, junk, junk, junk, junk, junk, junk, junk, junk] ∧ OwnI G H' out v1 ∧ Ext G H' ∧ out.length = i ∧ out = lineL s st i) ?_ ?_
  · exact ⟨[], _, by simp [forget], OwnI.nil _ _, Ext.refl _, rfl, rfl⟩
  rintro i e H1 hi ⟨out, v1, rfl, ho, x1, hlen, hv⟩
  ((repeat (first | refine q1 ?_ | refine q2 ?_ | refine q3 ?_ | refine q4 ?_ | refine q5 ?_ | refine q6 ?_ | refine q7 ?_ | refine q8 ?_ | refine q9 ?_ | refine qa ?_ | refine qb ?_ | refine qc ?_ | refine qd ?_ | refine qe (by decide) ?_ | refine qf ?_ | refine qg ?_)); (repeat ((first | apply aops_all | apply adraw_all); (simp (disch := first | exact List.all_nil | omega | (simp only [go_sem]; done) | (simp only [ln, List.length_map]; omega) | (repeat' first | assumption | exact Ext.refl _ | refine Ext.app ?_ _)) only [go_sem]; rfl); (repeat (first | refine q1 ?_ | refine q2 ?_ | refine q3 ?_ | refine q4 ?_ | refine q5 ?_ | refine q6 ?_ | refine q7 ?_ | refine q8 ?_ | refine q9 ?_ | refine qa ?_ | refine qb ?_ | refine qc ?_ | refine qd ?_ | refine qe (by decide) ?_ | refine qf ?_ | refine qg ?_)))); (try ((first | apply aops_until | apply adraw_until); (simp (disch := first | exact List.all_nil | omega | (simp only [go_sem]; done) | (simp only [ln, List.length_map]; omega) | (repeat' first | assumption | exact Ext.refl _ | refine Ext.app ?_ _)) only [go_sem]; rfl))))
  refine cond_p rfl (fun hlt => ?_) (fun hge => ?_)
  · have hm0 := mul_bound (x := st) (y := (i : Int)) (A := 1000) (B := 60) (by omega) (by omega) (by omega)
    rw [Int.mul_comm st] at hm0
    ((repeat (first | refine q1 ?_ | refine q2 ?_ | refine q3 ?_ | refine q4 ?_ | refine q5 ?_ | refine q6 ?_ | refine q7 ?_ | refine q8 ?_ | refine q9 ?_ | refine qa ?_ | refine qb ?_ | refine qc ?_ | refine qd ?_ | refine qe (by decide) ?_ | refine qf ?_ | refine qg ?_)); (repeat ((first | apply aops_all | apply adraw_all); (simp (disch := first | exact List.all_nil | omega | (simp only [go_sem]; done) | (simp only [ln, List.length_map]; omega) | (repeat' first | assumption | exact Ext.refl _ | refine Ext.app ?_ _)) only [go_sem, ho.push (show out.length < 1000000000 by omega)]; rfl); (repeat (first | refine q1 ?_ | refine q2 ?_ | refine q3 ?_ | refine q4 ?_ | refine q5 ?_ | refine q6 ?_ | refine q7 ?_ | refine q8 ?_ | refine q9 ?_ | refine qa ?_ | refine qb ?_ | refine qc ?_ | refine qd ?_ | refine qe (by decide) ?_ | refine qf ?_ | refine qg ?_)))); (try ((first | apply aops_until | apply adraw_until); (simp (disch := first | exact List.all_nil | omega | (simp only [go_sem]; done) | (simp only [ln, List.length_map]; omega) | (repeat' first | assumption | exact Ext.refl _ | refine Ext.app ?_ _)) only [go_sem, ho.push (show out.length < 1000000000 by omega)]; rfl))))
    refine ⟨by omega, _, _, ?_, ho.pushed x1 _, ho.ext x1 _, by simp [hlen], ?_⟩
    · simp [forget]
    · rw [hv, lineL_succ]
  have hiN : N = i := by omega
  subst hiN
  subst hv
  have iL : Ints H1 (lineL s st N) v1 := ho.ints
  clear ho
  have hLlen : (lineL s st N).length = N := lineL_len s st N
  have hN : 2 ≤ N ∧ N ≤ 60 := by omega
  have hLb : ∀ i : Nat, i < N → -70000 ≤ (lineL s st N).getD i 0 ∧ (lineL s st N).getD i 0 ≤ 70000 := fun i hi => by
    rw [lineL_get hi]
    have hm0 := mul_bound (x := st) (y := (i : Int)) (A := 1000) (B := 60) (by omega) (by omega) (by omega)
    rw [Int.mul_comm st] at hm0
    omega
  have hLpos : positionsErrL (lineL s st N) = 0 := posErr_of (by omega) fun i hi => by have := hLb i (by omega); omega
  ((repeat (first | refine q1 ?_ | refine q2 ?_ | refine q3 ?_ | refine q4 ?_ | refine q5 ?_ | refine q6 ?_ | refine q7 ?_ | refine q8 ?_ | refine q9 ?_ | refine qa ?_ | refine qb ?_ | refine qc ?_ | refine qd ?_ | refine qe (by decide) ?_ | refine qf ?_ | refine qg ?_)); (repeat ((first | apply aops_all | apply adraw_all); (simp (disch := first | exact List.all_nil | omega | (simp only [go_sem]; done) | (simp only [ln, List.length_map]; omega) | (repeat' first | assumption | exact Ext.refl _ | refine Ext.app ?_ _)) only [go_sem]; rfl); (repeat (first | refine q1 ?_ | refine q2 ?_ | refine q3 ?_ | refine q4 ?_ | refine q5 ?_ | refine q6 ?_ | refine q7 ?_ | refine q8 ?_ | refine q9 ?_ | refine qa ?_ | refine qb ?_ | refine qc ?_ | refine qd ?_ | refine qe (by decide) ?_ | refine qf ?_ | refine qg ?_)))); (try ((first | apply aops_until | apply adraw_until); (simp (disch := first | exact List.all_nil | omega | (simp only [go_sem]; done) | (simp only [ln, List.length_map]; omega) | (repeat' first | assumption | exact Ext.refl _ | refine Ext.app ?_ _)) only [go_sem]; rfl))))
  refine aops_call ((copyInts_c iL (by omega)).mono fun v2 H2 h => ?_)
  obtain ⟨rfl, rfl⟩ := h
  have ho := OwnI.last (H0 := H1) (H := H1) (l := lineL s st N) (Nat.le_refl _) (by omega)
  have x2 : Ext H1 (H1 ++ [.cells true 1 ((lineL s st N).map (.int .i64))]) := (Ext.refl _).app _
  generalize hv2 : Value.slice (some ⟨H1.length, 0, none⟩) ((lineL s st N).length : Nat) ((lineL s st N).length : Nat) = v2 at ho
  generalize (H1 ++ [.cells true 1 ((lineL s st N).map (.int .i64))] : AHeap) = H2 at ho x2
  ((repeat (first | refine q1 ?_ | refine q2 ?_ | refine q3 ?_ | refine q4 ?_ | refine q5 ?_ | refine q6 ?_ | refine q7 ?_ | refine q8 ?_ | refine q9 ?_ | refine qa ?_ | refine qb ?_ | refine qc ?_ | refine qd ?_ | refine qe (by decide) ?_ | refine qf ?_ | refine qg ?_)); (repeat ((first | apply aops_all | apply adraw_all); (simp (disch := first | exact List.all_nil | omega | (simp only [go_sem]; done) | (simp only [ln, List.length_map]; omega) | (repeat' first | assumption | exact Ext.refl _ | refine Ext.app ?_ _)) only [go_sem, hv2]; rfl); (repeat (first | refine q1 ?_ | refine q2 ?_ | refine q3 ?_ | refine q4 ?_ | refine q5 ?_ | refine q6 ?_ | refine q7 ?_ | refine q8 ?_ | refine q9 ?_ | refine qa ?_ | refine qb ?_ | refine qc ?_ | refine qd ?_ | refine qe (by decide) ?_ | refine qf ?_ | refine qg ?_)))); (try ((first | apply aops_until | apply adraw_until); (simp (disch := first | exact List.all_nil | omega | (simp only [go_sem]; done) | (simp only [ln, List.length_map]; omega) | (repeat' first | assumption | exact Ext.refl _ | refine Ext.app ?_ _)) only [go_sem, hv2]; rfl))))
  have hg1 := hg.ext x1
  refine awp_loop_n [false, true, true, false, false, false, false, false, true, true, true, false, true, true, false, false, false, false, false, false, false, false, false, false, false, false, false, false, false, false, false, false, false, false, false, false, false, false, false, false, false, false, false, false, false, false, false, false, false, false, false, false, false, false, false, false, false, false, false, false, false, false, false, false, false, false, false, false, false, false, false, false, false, false, false, false, false, false, false, false, false, false, false, false, false, false, false, false, false, false, false, false, false, false, false, false, false, false, false, false, false, false, false, false, false, false, false, false, false, false, false, false, false, false, false, false, false, false, false, false, false, false, false, false, false, false, false, false, false, false, false, false, false, false, false, false, false, false, false, false, false, false, false, false, false, false, false, false, false, false, false, false, false, false, false, false, false, false, false, false, false, false, false, false, false, false, false, false, false, false, false, false, false, false, false, false] gs.length (fun i e H' => ∃ out, e = [junk, u, .int .i64 c, junk, junk, junk, junk, junk, .int .i64 st, .int .i64 N, v1, junk, v2, .int .i64 i, junk, junk, junk, junk, junk, junk, junk, junk, junk, junk, junk, junk, junk, junk, junk, junk, junk, junk, junk, junk, junk, junk, junk, junk, junk, junk, junk, junk, junk, junk, junk, junk, junk, junk, junk, junk, junk, junk, junk, junk, junk, junk, junk, junk, junk, junk, junk, junk, junk, junk, junk, junk, junk, junk, junk, junk, junk, junk, junk, junk, junk, junk, junk, junk, junk, junk, junk, junk, junk, junk, junk, junk, junk, junk, junk, junk, junk, junk, junk, junk, junk, junk, junk, junk, junk, junk, junk, junk, junk, junk, junk, junk, junk, junk, junk, junk, junk, junk, junk, junk, junk, junk, junk, junk, junk, junk, junk, junk, junk, junk, junk, junk, junk, junk, junk, junk, junk, junk, junk, junk, junk, junk, junk, junk, junk, junk, junk, junk, junk, junk, junk, junk, junk, junk, junk, junk, junk, junk, junk, junk, junk, junk, junk, junk, junk, junk, junk, junk, junk, junk, junk, junk, junk, junk, junk, junk, junk, junk, junk, junk, junk, junk] ∧ OwnI H1 H' out v2 ∧ Ext H1 H' ∧ out.length = N ∧ spoilGo c (gs.drop i) out = spoilGo c gs (lineL s st N) ∧ ∀ j < i, (gs.getD j (0, 0)).1 ≠ 0 ∧ (gs.getD j (0, 0)).2 ≠ (N : Int) - 1) ?_ ?_
  · exact ⟨lineL s st N, by simp [forget], ho, x2, hLlen, rfl, fun j hj => absurd hj (by omega)⟩
  rintro i e Hb hi ⟨out, rfl, hob, xb, hlo, hv, hbef⟩
  have hgb := hg1.ext xb
  ((repeat (first | refine q1 ?_ | refine q2 ?_ | refine q3 ?_ | refine q4 ?_ | refine q5 ?_ | refine q6 ?_ | refine q7 ?_ | refine q8 ?_ | refine q9 ?_ | refine qa ?_ | refine qb ?_ | refine qc ?_ | refine qd ?_ | refine qe (by decide) ?_ | refine qf ?_ | refine qg ?_)); (repeat ((first | apply aops_all | apply adraw_all); (simp (disch := first | exact List.all_nil | omega | (simp only [go_sem]; done) | (simp only [ln, List.length_map]; omega) | (repeat' first | assumption | exact Ext.refl _ | refine Ext.app ?_ _)) only [go_sem, hgb.len, hgb.idx, hgb.load]; rfl); (repeat (first | refine q1 ?_ | refine q2 ?_ | refine q3 ?_ | refine q4 ?_ | refine q5 ?_ | refine q6 ?_ | refine q7 ?_ | refine q8 ?_ | refine q9 ?_ | refine qa ?_ | refine qb ?_ | refine qc ?_ | refine qd ?_ | refine qe (by decide) ?_ | refine qf ?_ | refine qg ?_)))); (try ((first | apply aops_until | apply adraw_until); (simp (disch := first | exact List.all_nil | omega | (simp only [go_sem]; done) | (simp only [ln, List.length_map]; omega) | (repeat' first | assumption | exact Ext.refl _ | refine Ext.app ?_ _)) only [go_sem, hgb.len, hgb.idx, hgb.load]; rfl))))
  refine cond_p rfl (fun hlt => ?_) (fun hge => ?_)
  · rw [spoilGo_step (by omega)] at hv
    have hi' : i < gs.length := by omega
    obtain ⟨a, b, hgab, hab, hbl, hnot⟩ := gaps_ok hq hi'
    rw [hgab] at hv
    simp only [Int.toNat_natCast] at hv
    by_cases ha : (a : Int) = 0
    · ((repeat (first | refine q1 ?_ | refine q2 ?_ | refine q3 ?_ | refine q4 ?_ | refine q5 ?_ | refine q6 ?_ | refine q7 ?_ | refine q8 ?_ | refine q9 ?_ | refine qa ?_ | refine qb ?_ | refine qc ?_ | refine qd ?_ | refine qe (by decide) ?_ | refine qf ?_ | refine qg ?_)); (repeat ((first | apply aops_all | apply adraw_all); (simp (disch := first | exact List.all_nil | omega | (simp only [go_sem]; done) | (simp only [ln, List.length_map]; omega) | (repeat' first | assumption | exact Ext.refl _ | refine Ext.app ?_ _)) only [go_sem, hgb.len, hgb.idx, hgb.load, hgab, dec_t ha]; rfl); (repeat (first | refine q1 ?_ | refine q2 ?_ | refine q3 ?_ | refine q4 ?_ | refine q5 ?_ | refine q6 ?_ | refine q7 ?_ | refine q8 ?_ | refine q9 ?_ | refine qa ?_ | refine qb ?_ | refine qc ?_ | refine qd ?_ | refine qe (by decide) ?_ | refine qf ?_ | refine qg ?_)))); (try ((first | apply aops_until | apply adraw_until); (simp (disch := first | exact List.all_nil | omega | (simp only [go_sem]; done) | (simp only [ln, List.length_map]; omega) | (repeat' first | assumption | exact Ext.refl _ | refine Ext.app ?_ _)) only [go_sem, hgb.len, hgb.idx, hgb.load, hgab, dec_t ha]; rfl))))
      refine cond_t rfl ?_
      ((repeat (first | refine q1 ?_ | refine q2 ?_ | refine q3 ?_ | refine q4 ?_ | refine q5 ?_ | refine q6 ?_ | refine q7 ?_ | refine q8 ?_ | refine q9 ?_ | refine qa ?_ | refine qb ?_ | refine qc ?_ | refine qd ?_ | refine qe (by decide) ?_ | refine qf ?_ | refine qg ?_)); (repeat ((first | apply aops_all | apply adraw_all); (simp (disch := first | exact List.all_nil | omega | (simp only [go_sem]; done) | (simp only [ln, List.length_map]; omega) | (repeat' first | assumption | exact Ext.refl _ | refine Ext.app ?_ _)) only [go_sem]; rfl); (repeat (first | refine q1 ?_ | refine q2 ?_ | refine q3 ?_ | refine q4 ?_ | refine q5 ?_ | refine q6 ?_ | refine q7 ?_ | refine q8 ?_ | refine q9 ?_ | refine qa ?_ | refine qb ?_ | refine qc ?_ | refine qd ?_ | refine qe (by decide) ?_ | refine qf ?_ | refine qg ?_)))); (try ((first | apply aops_until | apply adraw_until); (simp (disch := first | exact List.all_nil | omega | (simp only [go_sem]; done) | (simp only [ln, List.length_map]; omega) | (repeat' first | assumption | exact Ext.refl _ | refine Ext.app ?_ _)) only [go_sem]; rfl))))
      exact fin_1 rfl
    by_cases hbe : (b : Int) = (N : Int) - 1
    · ((repeat (first | refine q1 ?_ | refine q2 ?_ | refine q3 ?_ | refine q4 ?_ | refine q5 ?_ | refine q6 ?_ | refine q7 ?_ | refine q8 ?_ | refine q9 ?_ | refine qa ?_ | refine qb ?_ | refine qc ?_ | refine qd ?_ | refine qe (by decide) ?_ | refine qf ?_ | refine qg ?_)); (repeat ((first | apply aops_all | apply adraw_all); (simp (disch := first | exact List.all_nil | omega | (simp only [go_sem]; done) | (simp only [ln, List.length_map]; omega) | (repeat' first | assumption | exact Ext.refl _ | refine Ext.app ?_ _)) only [go_sem, hgb.len, hgb.idx, hgb.load, hgab, dec_f ha, dec_t hbe]; rfl); (repeat (first | refine q1 ?_ | refine q2 ?_ | refine q3 ?_ | refine q4 ?_ | refine q5 ?_ | refine q6 ?_ | refine q7 ?_ | refine q8 ?_ | refine q9 ?_ | refine qa ?_ | refine qb ?_ | refine qc ?_ | refine qd ?_ | refine qe (by decide) ?_ | refine qf ?_ | refine qg ?_)))); (try ((first | apply aops_until | apply adraw_until); (simp (disch := first | exact List.all_nil | omega | (simp only [go_sem]; done) | (simp only [ln, List.length_map]; omega) | (repeat' first | assumption | exact Ext.refl _ | refine Ext.app ?_ _)) only [go_sem, hgb.len, hgb.idx, hgb.load, hgab, dec_f ha, dec_t hbe]; rfl))))
      refine cond_t rfl ?_
      ((repeat (first | refine q1 ?_ | refine q2 ?_ | refine q3 ?_ | refine q4 ?_ | refine q5 ?_ | refine q6 ?_ | refine q7 ?_ | refine q8 ?_ | refine q9 ?_ | refine qa ?_ | refine qb ?_ | refine qc ?_ | refine qd ?_ | refine qe (by decide) ?_ | refine qf ?_ | refine qg ?_)); (repeat ((first | apply aops_all | apply adraw_all); (simp (disch := first | exact List.all_nil | omega | (simp only [go_sem]; done) | (simp only [ln, List.length_map]; omega) | (repeat' first | assumption | exact Ext.refl _ | refine Ext.app ?_ _)) only [go_sem]; rfl); (repeat (first | refine q1 ?_ | refine q2 ?_ | refine q3 ?_ | refine q4 ?_ | refine q5 ?_ | refine q6 ?_ | refine q7 ?_ | refine q8 ?_ | refine q9 ?_ | refine qa ?_ | refine qb ?_ | refine qc ?_ | refine qd ?_ | refine qe (by decide) ?_ | refine qf ?_ | refine qg ?_)))); (try ((first | apply aops_until | apply adraw_until); (simp (disch := first | exact List.all_nil | omega | (simp only [go_sem]; done) | (simp only [ln, List.length_map]; omega) | (repeat' first | assumption | exact Ext.refl _ | refine Ext.app ?_ _)) only [go_sem]; rfl))))
      exact fin_1 rfl
    ((repeat (first | refine q1 ?_ | refine q2 ?_ | refine q3 ?_ | refine q4 ?_ | refine q5 ?_ | refine q6 ?_ | refine q7 ?_ | refine q8 ?_ | refine q9 ?_ | refine qa ?_ | refine qb ?_ | refine qc ?_ | refine qd ?_ | refine qe (by decide) ?_ | refine qf ?_ | refine qg ?_)); (repeat ((first | apply aops_all | apply adraw_all); (simp (disch := first | exact List.all_nil | omega | (simp only [go_sem]; done) | (simp only [ln, List.length_map]; omega) | (repeat' first | assumption | exact Ext.refl _ | refine Ext.app ?_ _)) only [go_sem, hgb.len, hgb.idx, hgb.load, hgab, dec_f ha, dec_f hbe]; rfl); (repeat (first | refine q1 ?_ | refine q2 ?_ | refine q3 ?_ | refine q4 ?_ | refine q5 ?_ | refine q6 ?_ | refine q7 ?_ | refine q8 ?_ | refine q9 ?_ | refine qa ?_ | refine qb ?_ | refine qc ?_ | refine qd ?_ | refine qe (by decide) ?_ | refine qf ?_ | refine qg ?_)))); (try ((first | apply aops_until | apply adraw_until); (simp (disch := first | exact List.all_nil | omega | (simp only [go_sem]; done) | (simp only [ln, List.length_map]; omega) | (repeat' first | assumption | exact Ext.refl _ | refine Ext.app ?_ _)) only [go_sem, hgb.len, hgb.idx, hgb.load, hgab, dec_f ha, dec_f hbe]; rfl))))
    refine cond_f rfl ?_
    ((repeat (first | refine q1 ?_ | refine q2 ?_ | refine q3 ?_ | refine q4 ?_ | refine q5 ?_ | refine q6 ?_ | refine q7 ?_ | refine q8 ?_ | refine q9 ?_ | refine qa ?_ | refine qb ?_ | refine qc ?_ | refine qd ?_ | refine qe (by decide) ?_ | refine qf ?_ | refine qg ?_)); (repeat ((first | apply aops_all | apply adraw_all); (simp (disch := first | exact List.all_nil | omega | (simp only [go_sem]; done) | (simp only [ln, List.length_map]; omega) | (repeat' first | assumption | exact Ext.refl _ | refine Ext.app ?_ _)) only [go_sem, hgb.len, hgb.idx, hgb.load, hgab]; rfl); (repeat (first | refine q1 ?_ | refine q2 ?_ | refine q3 ?_ | refine q4 ?_ | refine q5 ?_ | refine q6 ?_ | refine q7 ?_ | refine q8 ?_ | refine q9 ?_ | refine qa ?_ | refine qb ?_ | refine qc ?_ | refine qd ?_ | refine qe (by decide) ?_ | refine qf ?_ | refine qg ?_)))); (try ((first | apply aops_until | apply adraw_until); (simp (disch := first | exact List.all_nil | omega | (simp only [go_sem]; done) | (simp only [ln, List.length_map]; omega) | (repeat' first | assumption | exact Ext.refl _ | refine Ext.app ?_ _)) only [go_sem, hgb.len, hgb.idx, hgb.load, hgab]; rfl))))
    refine awp_loop_n [false, true, true, false, false, false, false, false, true, true, true, false, true, true, true, false, false, false, false, false, false, false, false, false, false, false, false, false, false, false, false, false, false, false, false, false, false, false, false, false, false, false, false, false, false, false, false, false, false, false, false, false, false, false, false, false, false, false, false, false, false, false, false, false, false, false, false, false, false, false, false, false, false, false, false, false, false, false, false, false, false, false, false, false, false, false, false, false, false, false, false, false, false, false, false, false, false, false, false, false, false, false, false, false, false, false, false, false, false, false, false, false, false, false, false, false, false, false, false, false, false, false, false, false, false, false, false, false, false, false, false, false, false, false, false, false, false, false, false, false, false, false, false, false, false, false, false, false, false, false, false, false, false, false, false, false, false, false, false, false, false, false, false, false, false, false, false, false, false, false, false, false, false, false, false, false] (b + 1 - a) (fun k e H' => ∃ out2, e = [junk, u, .int .i64 c, junk, junk, junk, junk, junk, .int .i64 st, .int .i64 N, v1, junk, v2, .int .i64 i, .int .i64 ((a + k : Nat) : Int), junk, junk, junk, junk, junk, junk, junk, junk, junk, junk, junk, junk, junk, junk, junk, junk, junk, junk, junk, junk, junk, junk, junk, junk, junk, junk, junk, junk, junk, junk, junk, junk, junk, junk, junk, junk, junk, junk, junk, junk, junk, junk, junk, junk, junk, junk, junk, junk, junk, junk, junk, junk, junk, junk, junk, junk, junk, junk, junk, junk, junk, junk, junk, junk, junk, junk, junk, junk, junk, junk, junk, junk, junk, junk, junk, junk, junk, junk, junk, junk, junk, junk, junk, junk, junk, junk, junk, junk, junk, junk, junk, junk, junk, junk, junk, junk, junk, junk, junk, junk, junk, junk, junk, junk, junk, junk, junk, junk, junk, junk, junk, junk, junk, junk, junk, junk, junk, junk, junk, junk, junk, junk, junk, junk, junk, junk, junk, junk, junk, junk, junk, junk, junk, junk, junk, junk, junk, junk, junk, junk, junk, junk, junk, junk, junk, junk, junk, junk, junk, junk, junk, junk, junk, junk, junk, junk, junk, junk, junk, junk, junk] ∧
      OwnI H1 H' out2 v2 ∧ Ext H1 H' ∧ out2.length = N ∧ fillC c (b + 1 - a - k) (a + k) out2 = fillC c (b + 1 - a) a out) ?_ ?_
    · exact ⟨out, by simp [forget], hob, xb, hlo, rfl⟩
    rintro k e H' hk ⟨out2, rfl, ho2, hx2, hlo2, hv2'⟩
    have hg2 := hg1.ext hx2
    ((repeat (first | refine q1 ?_ | refine q2 ?_ | refine q3 ?_ | refine q4 ?_ | refine q5 ?_ | refine q6 ?_ | refine q7 ?_ | refine q8 ?_ | refine q9 ?_ | refine qa ?_ | refine qb ?_ | refine qc ?_ | refine qd ?_ | refine qe (by decide) ?_ | refine qf ?_ | refine qg ?_)); (repeat ((first | apply aops_all | apply adraw_all); (simp (disch := first | exact List.all_nil | omega | (simp only [go_sem]; done) | (simp only [ln, List.length_map]; omega) | (repeat' first | assumption | exact Ext.refl _ | refine Ext.app ?_ _)) only [go_sem, hg2.len, hg2.idx, hg2.load, hgab]; rfl); (repeat (first | refine q1 ?_ | refine q2 ?_ | refine q3 ?_ | refine q4 ?_ | refine q5 ?_ | refine q6 ?_ | refine q7 ?_ | refine q8 ?_ | refine q9 ?_ | refine qa ?_ | refine qb ?_ | refine qc ?_ | refine qd ?_ | refine qe (by decide) ?_ | refine qf ?_ | refine qg ?_)))); (try ((first | apply aops_until | apply adraw_until); (simp (disch := first | exact List.all_nil | omega | (simp only [go_sem]; done) | (simp only [ln, List.length_map]; omega) | (repeat' first | assumption | exact Ext.refl _ | refine Ext.app ?_ _)) only [go_sem, hg2.len, hg2.idx, hg2.load, hgab]; rfl))))
    refine cond_p rfl (fun hle => ?_) (fun hgt => ?_)
    · have e1 : b + 1 - a - k = (b + 1 - a - (k + 1)) + 1 := by omega
      rw [e1] at hv2'
      simp only [fillC] at hv2'
      ((repeat (first | refine q1 ?_ | refine q2 ?_ | refine q3 ?_ | refine q4 ?_ | refine q5 ?_ | refine q6 ?_ | refine q7 ?_ | refine q8 ?_ | refine q9 ?_ | refine qa ?_ | refine qb ?_ | refine qc ?_ | refine qd ?_ | refine qe (by decide) ?_ | refine qf ?_ | refine qg ?_)); (repeat ((first | apply aops_all | apply adraw_all); (simp (disch := first | exact List.all_nil | omega | (simp only [go_sem]; done) | (simp only [ln, List.length_map]; omega) | (repeat' first | assumption | exact Ext.refl _ | refine Ext.app ?_ _)) only [go_sem, ho2.ints.len, ho2.ints.idx, ho2.ints.load, ho2.store (show a + k < out2.length by omega)]; rfl); (repeat (first | refine q1 ?_ | refine q2 ?_ | refine q3 ?_ | refine q4 ?_ | refine q5 ?_ | refine q6 ?_ | refine q7 ?_ | refine q8 ?_ | refine q9 ?_ | refine qa ?_ | refine qb ?_ | refine qc ?_ | refine qd ?_ | refine qe (by decide) ?_ | refine qf ?_ | refine qg ?_)))); (try ((first | apply aops_until | apply adraw_until); (simp (disch := first | exact List.all_nil | omega | (simp only [go_sem]; done) | (simp only [ln, List.length_map]; omega) | (repeat' first | assumption | exact Ext.refl _ | refine Ext.app ?_ _)) only [go_sem, ho2.ints.len, ho2.ints.idx, ho2.ints.load, ho2.store (show a + k < out2.length by omega)]; rfl))))
      refine ⟨by omega, _, ?_, ho2.stored (out2.set (a + k) c) (by simp), ho2.ext_set hx2 _, by simp [hlo2], ?_⟩
      · simp [forget]; omega
      · rw [← hv2', Nat.add_assoc]
    · ((repeat (first | refine q1 ?_ | refine q2 ?_ | refine q3 ?_ | refine q4 ?_ | refine q5 ?_ | refine q6 ?_ | refine q7 ?_ | refine q8 ?_ | refine q9 ?_ | refine qa ?_ | refine qb ?_ | refine qc ?_ | refine qd ?_ | refine qe (by decide) ?_ | refine qf ?_ | refine qg ?_)); (repeat ((first | apply aops_all | apply adraw_all); (simp (disch := first | exact List.all_nil | omega | (simp only [go_sem]; done) | (simp only [ln, List.length_map]; omega) | (repeat' first | assumption | exact Ext.refl _ | refine Ext.app ?_ _)) only [go_sem]; rfl); (repeat (first | refine q1 ?_ | refine q2 ?_ | refine q3 ?_ | refine q4 ?_ | refine q5 ?_ | refine q6 ?_ | refine q7 ?_ | refine q8 ?_ | refine q9 ?_ | refine qa ?_ | refine qb ?_ | refine qc ?_ | refine qd ?_ | refine qe (by decide) ?_ | refine qf ?_ | refine qg ?_)))); (try ((first | apply aops_until | apply adraw_until); (simp (disch := first | exact List.all_nil | omega | (simp only [go_sem]; done) | (simp only [ln, List.length_map]; omega) | (repeat' first | assumption | exact Ext.refl _ | refine Ext.app ?_ _)) only [go_sem]; rfl))))
      have ek : b + 1 - a - k = 0 := by omega
      rw [ek] at hv2'
      simp only [fillC] at hv2'
      rw [← hv2'] at hv
      refine ⟨by omega, out2, ?_, ho2, hx2, hlo2, hv, fun j hj => ?_⟩
      · simp [forget]
      · by_cases hji : j = i
        · subst hji; rw [hgab]; exact ⟨ha, hbe⟩
        · exact hbef j (by omega)
  rw [spoilGo_end (by omega)] at hv
  subst hv
  have hends : ∀ g ∈ gs, g.1 ≠ 0 ∧ g.2 ≠ (N : Int) - 1 := fun g hg => by
    obtain ⟨j, hj, rfl⟩ := List.getElem_of_mem hg
    have := hbef j (by omega)
    rwa [List.getD_eq_getElem?_getD, List.getElem?_eq_getElem hj] at this
  have hSpos : positionsErrL (spoilGo c gs (lineL s st N)) = 0 := posErr_of (by omega) fun i hi => by
    have h1 := hLb i (by omega)
    rcases spoilGo_at (c := c) gs (lineL s st N) (i := i) (by omega) with h | h <;> rw [h] <;> omega
  have e1 : bridgedL (spoilGo c gs (lineL s st N)) gs = (lineL s st N, 0) := by
    unfold bridgedL
    rw [if_pos hSpos, hlo, if_pos hq, straight_bridged hq hends]
  have e2 : (bridgedL (spoilGo c gs (lineL s st N)) gs).2 = 0 := by rw [e1]
  have iS := hob.ints
  obtain ⟨sg, H3, ha, x3, id, rfl, hid, hos⟩ := append_copy (bytes := 16) hgb (isAtom_flatP gs) (roomOk_of (by omega) (by omega))
  have ig : Pairs H3 gs (.slice (some ⟨id, 0, none⟩) gs.length gs.length) := Sl.of hos (flatP_len gs)
  ((repeat (first | refine q1 ?_ | refine q2 ?_ | refine q3 ?_ | refine q4 ?_ | refine q5 ?_ | refine q6 ?_ | refine q7 ?_ | refine q8 ?_ | refine q9 ?_ | refine qa ?_ | refine qb ?_ | refine qc ?_ | refine qd ?_ | refine qe (by decide) ?_ | refine qf ?_ | refine qg ?_)); (repeat ((first | apply aops_all | apply adraw_all); (simp (disch := first | exact List.all_nil | omega | (simp only [go_sem]; done) | (simp only [ln, List.length_map]; omega) | (repeat' first | assumption | exact Ext.refl _ | refine Ext.app ?_ _)) only [go_sem, ha]; rfl); (repeat (first | refine q1 ?_ | refine q2 ?_ | refine q3 ?_ | refine q4 ?_ | refine q5 ?_ | refine q6 ?_ | refine q7 ?_ | refine q8 ?_ | refine q9 ?_ | refine qa ?_ | refine qb ?_ | refine qc ?_ | refine qd ?_ | refine qe (by decide) ?_ | refine qf ?_ | refine qg ?_)))); (try ((first | apply aops_until | apply adraw_until); (simp (disch := first | exact List.all_nil | omega | (simp only [go_sem]; done) | (simp only [ln, List.length_map]; omega) | (repeat' first | assumption | exact Ext.refl _ | refine Ext.app ?_ _)) only [go_sem, ha]; rfl))))
  refine aops_call ((bridged_c (iS.ext x3) ig (by omega) (by omega)).mono fun v4 H4 h => ?_)
  obtain ⟨sx, rfl, ix, x4⟩ := h
  have x14 := (xb.trans x3).trans x4
  replace ix : Ints H4 (lineL s st N) sx := by rw [e1] at ix; exact ix
  ((repeat (first | refine q1 ?_ | refine q2 ?_ | refine q3 ?_ | refine q4 ?_ | refine q5 ?_ | refine q6 ?_ | refine q7 ?_ | refine q8 ?_ | refine q9 ?_ | refine qa ?_ | refine qb ?_ | refine qc ?_ | refine qd ?_ | refine qe (by decide) ?_ | refine qf ?_ | refine qg ?_)); (repeat ((first | apply aops_all | apply adraw_all); (simp (disch := first | exact List.all_nil | omega | (simp only [go_sem]; done) | (simp only [ln, List.length_map]; omega) | (repeat' first | assumption | exact Ext.refl _ | refine Ext.app ?_ _)) only [go_sem, e2]; rfl); (repeat (first | refine q1 ?_ | refine q2 ?_ | refine q3 ?_ | refine q4 ?_ | refine q5 ?_ | refine q6 ?_ | refine q7 ?_ | refine q8 ?_ | refine q9 ?_ | refine qa ?_ | refine qb ?_ | refine qc ?_ | refine qd ?_ | refine qe (by decide) ?_ | refine qf ?_ | refine qg ?_)))); (try ((first | apply aops_until | apply adraw_until); (simp (disch := first | exact List.all_nil | omega | (simp only [go_sem]; done) | (simp only [ln, List.length_map]; omega) | (repeat' first | assumption | exact Ext.refl _ | refine Ext.app ?_ _)) only [go_sem, e2]; rfl))))
  refine aops_call ((copyInts_u (iL.ext x14) (by omega)).mono fun v5 H5 ⟨i5, x5⟩ => ?_)
  ((repeat (first | refine q1 ?_ | refine q2 ?_ | refine q3 ?_ | refine q4 ?_ | refine q5 ?_ | refine q6 ?_ | refine q7 ?_ | refine q8 ?_ | refine q9 ?_ | refine qa ?_ | refine qb ?_ | refine qc ?_ | refine qd ?_ | refine qe (by decide) ?_ | refine qf ?_ | refine qg ?_)); (repeat ((first | apply aops_all | apply adraw_all); (simp (disch := first | exact List.all_nil | omega | (simp only [go_sem]; done) | (simp only [ln, List.length_map]; omega) | (repeat' first | assumption | exact Ext.refl _ | refine Ext.app ?_ _)) only [go_sem]; rfl); (repeat (first | refine q1 ?_ | refine q2 ?_ | refine q3 ?_ | refine q4 ?_ | refine q5 ?_ | refine q6 ?_ | refine q7 ?_ | refine q8 ?_ | refine q9 ?_ | refine qa ?_ | refine qb ?_ | refine qc ?_ | refine qd ?_ | refine qe (by decide) ?_ | refine qf ?_ | refine qg ?_)))); (try ((first | apply aops_until | apply adraw_until); (simp (disch := first | exact List.all_nil | omega | (simp only [go_sem]; done) | (simp only [ln, List.length_map]; omega) | (repeat' first | assumption | exact Ext.refl _ | refine Ext.app ?_ _)) only [go_sem]; rfl))))
  refine aops_call ((velocities_c i5 (by omega)).mono fun v6 H6 h => ?_)
  obtain ⟨sv, rfl, iv, x6⟩ := h.use
  have x16 := (x14.trans x5).trans x6
  have hLne : lineL s st N ≠ [] := fun h => by rw [h] at hLlen; simp at hLlen; omega
  have f1 : velL (lineL s st N) = (velGo (lineL s st N), 0) := by simp [velL, hLpos, hLne]
  have f2 : (velL (lineL s st N)).2 = 0 := by rw [f1]
  replace iv : Ints H6 (velGo (lineL s st N)) sv := by rw [f1] at iv; exact iv
  ((repeat (first | refine q1 ?_ | refine q2 ?_ | refine q3 ?_ | refine q4 ?_ | refine q5 ?_ | refine q6 ?_ | refine q7 ?_ | refine q8 ?_ | refine q9 ?_ | refine qa ?_ | refine qb ?_ | refine qc ?_ | refine qd ?_ | refine qe (by decide) ?_ | refine qf ?_ | refine qg ?_)); (repeat ((first | apply aops_all | apply adraw_all); (simp (disch := first | exact List.all_nil | omega | (simp only [go_sem]; done) | (simp only [ln, List.length_map]; omega) | (repeat' first | assumption | exact Ext.refl _ | refine Ext.app ?_ _)) only [go_sem, f2]; rfl); (repeat (first | refine q1 ?_ | refine q2 ?_ | refine q3 ?_ | refine q4 ?_ | refine q5 ?_ | refine q6 ?_ | refine q7 ?_ | refine q8 ?_ | refine q9 ?_ | refine qa ?_ | refine qb ?_ | refine qc ?_ | refine qd ?_ | refine qe (by decide) ?_ | refine qf ?_ | refine qg ?_)))); (try ((first | apply aops_until | apply adraw_until); (simp (disch := first | exact List.all_nil | omega | (simp only [go_sem]; done) | (simp only [ln, List.length_map]; omega) | (repeat' first | assumption | exact Ext.refl _ | refine Ext.app ?_ _)) only [go_sem, f2]; rfl))))
  refine aops_call ((copyInts_u (iL.ext x16) (by omega)).mono fun v7 H7 ⟨i7, x7⟩ => ?_)
  ((repeat (first | refine q1 ?_ | refine q2 ?_ | refine q3 ?_ | refine q4 ?_ | refine q5 ?_ | refine q6 ?_ | refine q7 ?_ | refine q8 ?_ | refine q9 ?_ | refine qa ?_ | refine qb ?_ | refine qc ?_ | refine qd ?_ | refine qe (by decide) ?_ | refine qf ?_ | refine qg ?_)); (repeat ((first | apply aops_all | apply adraw_all); (simp (disch := first | exact List.all_nil | omega | (simp only [go_sem]; done) | (simp only [ln, List.length_map]; omega) | (repeat' first | assumption | exact Ext.refl _ | refine Ext.app ?_ _)) only [go_sem]; rfl); (repeat (first | refine q1 ?_ | refine q2 ?_ | refine q3 ?_ | refine q4 ?_ | refine q5 ?_ | refine q6 ?_ | refine q7 ?_ | refine q8 ?_ | refine q9 ?_ | refine qa ?_ | refine qb ?_ | refine qc ?_ | refine qd ?_ | refine qe (by decide) ?_ | refine qf ?_ | refine qg ?_)))); (try ((first | apply aops_until | apply adraw_until); (simp (disch := first | exact List.all_nil | omega | (simp only [go_sem]; done) | (simp only [ln, List.length_map]; omega) | (repeat' first | assumption | exact Ext.refl _ | refine Ext.app ?_ _)) only [go_sem]; rfl))))
  refine aops_call_to (bsize_c _ (by omega)) ?_
  ((repeat (first | refine q1 ?_ | refine q2 ?_ | refine q3 ?_ | refine q4 ?_ | refine q5 ?_ | refine q6 ?_ | refine q7 ?_ | refine q8 ?_ | refine q9 ?_ | refine qa ?_ | refine qb ?_ | refine qc ?_ | refine qd ?_ | refine qe (by decide) ?_ | refine qf ?_ | refine qg ?_)); (repeat ((first | apply aops_all | apply adraw_all); (simp (disch := first | exact List.all_nil | omega | (simp only [go_sem]; done) | (simp only [ln, List.length_map]; omega) | (repeat' first | assumption | exact Ext.refl _ | refine Ext.app ?_ _)) only [go_sem]; rfl); (repeat (first | refine q1 ?_ | refine q2 ?_ | refine q3 ?_ | refine q4 ?_ | refine q5 ?_ | refine q6 ?_ | refine q7 ?_ | refine q8 ?_ | refine q9 ?_ | refine qa ?_ | refine qb ?_ | refine qc ?_ | refine qd ?_ | refine qe (by decide) ?_ | refine qf ?_ | refine qg ?_)))); (try ((first | apply aops_until | apply adraw_until); (simp (disch := first | exact List.all_nil | omega | (simp only [go_sem]; done) | (simp only [ln, List.length_map]; omega) | (repeat' first | assumption | exact Ext.refl _ | refine Ext.app ?_ _)) only [go_sem]; rfl))))
  refine aops_call ((jumps_c i7 (by omega)).mono fun v8 H8 h => ?_)
  obtain ⟨sj, rfl, ij, x8⟩ := h.use
  have hstep : ∀ i : Nat, i + 1 < N → (lineL s st N).getD (i + 1) 0 - (lineL s st N).getD i 0 = st := fun i hi => by
    rw [lineL_get hi, lineL_get (by omega), Int.natCast_add, Int.add_mul]; omega
  have g1 : jumpsL (lineL s st N) (max st (-st)) = ([], 0) := by
    have hj : jumpGo (max st (-st)) 1 (lineL s st N) = [] := jumpGo_none _ _ fun i hi => by rw [hstep i (by omega)]; omega
    have hlim : 0 ≤ max st (-st) ∧ max st (-st) ≤ 2000000 := by omega
    simp [jumpsL, hLpos, limL, hlim, hj]
  have g2 : (jumpsL (lineL s st N) (max st (-st))).2 = 0 := by rw [g1]
  replace ij : Ints H8 [] sj := by rw [g1] at ij; exact ij
  have hvl : ((velGo (lineL s st N)).length : Int) = (N : Int) - 1 := by have := velN_len (lineL s st N); omega
  have x48 := ((x5.trans x6).trans x7).trans x8
  ((repeat (first | refine q1 ?_ | refine q2 ?_ | refine q3 ?_ | refine q4 ?_ | refine q5 ?_ | refine q6 ?_ | refine q7 ?_ | refine q8 ?_ | refine q9 ?_ | refine qa ?_ | refine qb ?_ | refine qc ?_ | refine qd ?_ | refine qe (by decide) ?_ | refine qf ?_ | refine qg ?_)); (repeat ((first | apply aops_all | apply adraw_all); (simp (disch := first | exact List.all_nil | omega | (simp only [go_sem]; done) | (simp only [ln, List.length_map]; omega) | (repeat' first | assumption | exact Ext.refl _ | refine Ext.app ?_ _)) only [go_sem, g2]; rfl); (repeat (first | refine q1 ?_ | refine q2 ?_ | refine q3 ?_ | refine q4 ?_ | refine q5 ?_ | refine q6 ?_ | refine q7 ?_ | refine q8 ?_ | refine q9 ?_ | refine qa ?_ | refine qb ?_ | refine qc ?_ | refine qd ?_ | refine qe (by decide) ?_ | refine qf ?_ | refine qg ?_)))); (try ((first | apply aops_until | apply adraw_until); (simp (disch := first | exact List.all_nil | omega | (simp only [go_sem]; done) | (simp only [ln, List.length_map]; omega) | (repeat' first | assumption | exact Ext.refl _ | refine Ext.app ?_ _)) only [go_sem, g2]; rfl))))
  refine aops_call_to (bints_c (ix.ext x48) (iL.ext (x14.trans x48)) (by omega) (by omega)) ?_
  have iv8 := iv.ext (x7.trans x8)
  ((repeat (first | refine q1 ?_ | refine q2 ?_ | refine q3 ?_ | refine q4 ?_ | refine q5 ?_ | refine q6 ?_ | refine q7 ?_ | refine q8 ?_ | refine q9 ?_ | refine qa ?_ | refine qb ?_ | refine qc ?_ | refine qd ?_ | refine qe (by decide) ?_ | refine qf ?_ | refine qg ?_)); (repeat ((first | apply aops_all | apply adraw_all); (simp (disch := first | exact List.all_nil | omega | (simp only [go_sem]; done) | (simp only [ln, List.length_map]; omega) | (repeat' first | assumption | exact Ext.refl _ | refine Ext.app ?_ _)) only [go_sem, iv8.len, iv8.idx, iv8.load, ij.len, ij.idx, ij.load, hvl, bne_self_eq_false, List.length_nil, Int.natCast_zero]; rfl); (repeat (first | refine q1 ?_ | refine q2 ?_ | refine q3 ?_ | refine q4 ?_ | refine q5 ?_ | refine q6 ?_ | refine q7 ?_ | refine q8 ?_ | refine q9 ?_ | refine qa ?_ | refine qb ?_ | refine qc ?_ | refine qd ?_ | refine qe (by decide) ?_ | refine qf ?_ | refine qg ?_)))); (try ((first | apply aops_until | apply adraw_until); (simp (disch := first | exact List.all_nil | omega | (simp only [go_sem]; done) | (simp only [ln, List.length_map]; omega) | (repeat' first | assumption | exact Ext.refl _ | refine Ext.app ?_ _)) only [go_sem, iv8.len, iv8.idx, iv8.load, ij.len, ij.idx, ij.load, hvl, bne_self_eq_false, List.length_nil, Int.natCast_zero]; rfl))))
  refine cond_f rfl ?_
  ((repeat (first | refine q1 ?_ | refine q2 ?_ | refine q3 ?_ | refine q4 ?_ | refine q5 ?_ | refine q6 ?_ | refine q7 ?_ | refine q8 ?_ | refine q9 ?_ | refine qa ?_ | refine qb ?_ | refine qc ?_ | refine qd ?_ | refine qe (by decide) ?_ | refine qf ?_ | refine qg ?_)); (repeat ((first | apply aops_all | apply adraw_all); (simp (disch := first | exact List.all_nil | omega | (simp only [go_sem]; done) | (simp only [ln, List.length_map]; omega) | (repeat' first | assumption | exact Ext.refl _ | refine Ext.app ?_ _)) only [go_sem]; rfl); (repeat (first | refine q1 ?_ | refine q2 ?_ | refine q3 ?_ | refine q4 ?_ | refine q5 ?_ | refine q6 ?_ | refine q7 ?_ | refine q8 ?_ | refine q9 ?_ | refine qa ?_ | refine qb ?_ | refine qc ?_ | refine qd ?_ | refine qe (by decide) ?_ | refine qf ?_ | refine qg ?_)))); (try ((first | apply aops_until | apply adraw_until); (simp (disch := first | exact List.all_nil | omega | (simp only [go_sem]; done) | (simp only [ln, List.length_map]; omega) | (repeat' first | assumption | exact Ext.refl _ | refine Ext.app ?_ _)) only [go_sem]; rfl))))
  refine awp_loop_n [false, false, false, false, false, false, false, false, true, false, false, false, false, false, false, false, false, true, false, false, false, true, false, false, false, false, false, false, false, false, false, false, false, false, false, false, false, false, false, false, false, false, false, false, false, false, false, false, false, false, false, false, false, false, false, false, false, false, false, false, false, false, false, false, false, false, false, false, false, false, false, false, false, false, false, false, false, false, false, false, false, false, false, false, false, false, false, false, false, false, false, false, false, false, false, false, false, false, false, false, false, false, false, false, false, false, false, false, false, false, false, false, false, false, false, false, false, false, false, false, false, false, false, false, false, false, false, false, false, false, false, false, false, false, false, false, false, false, false, false, false, false, false, false, false, false, false, false, false, false, false, false, false, false, false, false, false, false, false, false, false, false, false, false, false, false, false, false, false, false, false, false, false, false, false, false] (N - 1) (fun i e H' => H8 = H' ∧ e = [junk, junk, junk, junk, junk, junk, junk, junk, .int .i64 st, junk, junk, junk, junk, junk, junk, junk, junk, sv, junk, junk, junk, .int .i64 i, junk, junk, junk, junk, junk, junk, junk, junk, junk, junk, junk, junk, junk, junk, junk, junk, junk, junk, junk, junk, junk, junk, junk, junk, junk, junk, junk, junk, junk, junk, junk, junk, junk, junk, junk, junk, junk, junk, junk, junk, junk, junk, junk, junk, junk, junk, junk, junk, junk, junk, junk, junk, junk, junk, junk, junk, junk, junk, junk, junk, junk, junk, junk, junk, junk, junk, junk, junk, junk, junk, junk, junk, junk, junk, junk, junk, junk, junk, junk, junk, junk, junk, junk, junk, junk, junk, junk, junk, junk, junk, junk, junk, junk, junk, junk, junk, junk, junk, junk, junk, junk, junk, junk, junk, junk, junk, junk, junk, junk, junk, junk, junk, junk, junk, junk, junk, junk, junk, junk, junk, junk, junk, junk, junk, junk, junk, junk, junk, junk, junk, junk, junk, junk, junk, junk, junk, junk, junk, junk, junk, junk, junk, junk, junk, junk, junk, junk, junk, junk, junk, junk, junk, junk, junk]) ?_ ?_
  · exact ⟨rfl, by simp [forget]⟩
  rintro i e H' hi ⟨rfl, rfl⟩
  ((repeat (first | refine q1 ?_ | refine q2 ?_ | refine q3 ?_ | refine q4 ?_ | refine q5 ?_ | refine q6 ?_ | refine q7 ?_ | refine q8 ?_ | refine q9 ?_ | refine qa ?_ | refine qb ?_ | refine qc ?_ | refine qd ?_ | refine qe (by decide) ?_ | refine qf ?_ | refine qg ?_)); (repeat ((first | apply aops_all | apply adraw_all); (simp (disch := first | exact List.all_nil | omega | (simp only [go_sem]; done) | (simp only [ln, List.length_map]; omega) | (repeat' first | assumption | exact Ext.refl _ | refine Ext.app ?_ _)) only [go_sem, iv8.len, iv8.idx, iv8.load]; rfl); (repeat (first | refine q1 ?_ | refine q2 ?_ | refine q3 ?_ | refine q4 ?_ | refine q5 ?_ | refine q6 ?_ | refine q7 ?_ | refine q8 ?_ | refine q9 ?_ | refine qa ?_ | refine qb ?_ | refine qc ?_ | refine qd ?_ | refine qe (by decide) ?_ | refine qf ?_ | refine qg ?_)))); (try ((first | apply aops_until | apply adraw_until); (simp (disch := first | exact List.all_nil | omega | (simp only [go_sem]; done) | (simp only [ln, List.length_map]; omega) | (repeat' first | assumption | exact Ext.refl _ | refine Ext.app ?_ _)) only [go_sem, iv8.len, iv8.idx, iv8.load]; rfl))))
  refine cond_p rfl (fun hlt => ?_) (fun hge => ?_)
  · have hi' : i + 1 < N := by omega
    have hval : (velGo (lineL s st N)).getD i 0 = st := by rw [velGo_getD _ _ (by omega), hstep i hi']
    ((repeat (first | refine q1 ?_ | refine q2 ?_ | refine q3 ?_ | refine q4 ?_ | refine q5 ?_ | refine q6 ?_ | refine q7 ?_ | refine q8 ?_ | refine q9 ?_ | refine qa ?_ | refine qb ?_ | refine qc ?_ | refine qd ?_ | refine qe (by decide) ?_ | refine qf ?_ | refine qg ?_)); (repeat ((first | apply aops_all | apply adraw_all); (simp (disch := first | exact List.all_nil | omega | (simp only [go_sem]; done) | (simp only [ln, List.length_map]; omega) | (repeat' first | assumption | exact Ext.refl _ | refine Ext.app ?_ _)) only [go_sem, iv8.len, iv8.idx, iv8.load, hval, bne_self_eq_false]; rfl); (repeat (first | refine q1 ?_ | refine q2 ?_ | refine q3 ?_ | refine q4 ?_ | refine q5 ?_ | refine q6 ?_ | refine q7 ?_ | refine q8 ?_ | refine q9 ?_ | refine qa ?_ | refine qb ?_ | refine qc ?_ | refine qd ?_ | refine qe (by decide) ?_ | refine qf ?_ | refine qg ?_)))); (try ((first | apply aops_until | apply adraw_until); (simp (disch := first | exact List.all_nil | omega | (simp only [go_sem]; done) | (simp only [ln, List.length_map]; omega) | (repeat' first | assumption | exact Ext.refl _ | refine Ext.app ?_ _)) only [go_sem, iv8.len, iv8.idx, iv8.load, hval, bne_self_eq_false]; rfl))))
    refine cond_f rfl ?_
    ((repeat (first | refine q1 ?_ | refine q2 ?_ | refine q3 ?_ | refine q4 ?_ | refine q5 ?_ | refine q6 ?_ | refine q7 ?_ | refine q8 ?_ | refine q9 ?_ | refine qa ?_ | refine qb ?_ | refine qc ?_ | refine qd ?_ | refine qe (by decide) ?_ | refine qf ?_ | refine qg ?_)); (repeat ((first | apply aops_all | apply adraw_all); (simp (disch := first | exact List.all_nil | omega | (simp only [go_sem]; done) | (simp only [ln, List.length_map]; omega) | (repeat' first | assumption | exact Ext.refl _ | refine Ext.app ?_ _)) only [go_sem]; rfl); (repeat (first | refine q1 ?_ | refine q2 ?_ | refine q3 ?_ | refine q4 ?_ | refine q5 ?_ | refine q6 ?_ | refine q7 ?_ | refine q8 ?_ | refine q9 ?_ | refine qa ?_ | refine qb ?_ | refine qc ?_ | refine qd ?_ | refine qe (by decide) ?_ | refine qf ?_ | refine qg ?_)))); (try ((first | apply aops_until | apply adraw_until); (simp (disch := first | exact List.all_nil | omega | (simp only [go_sem]; done) | (simp only [ln, List.length_map]; omega) | (repeat' first | assumption | exact Ext.refl _ | refine Ext.app ?_ _)) only [go_sem]; rfl))))
    exact ⟨by omega, rfl, by simp [forget]⟩
  ((repeat (first | refine q1 ?_ | refine q2 ?_ | refine q3 ?_ | refine q4 ?_ | refine q5 ?_ | refine q6 ?_ | refine q7 ?_ | refine q8 ?_ | refine q9 ?_ | refine qa ?_ | refine qb ?_ | refine qc ?_ | refine qd ?_ | refine qe (by decide) ?_ | refine qf ?_ | refine qg ?_)); (repeat ((first | apply aops_all | apply adraw_all); (simp (disch := first | exact List.all_nil | omega | (simp only [go_sem]; done) | (simp only [ln, List.length_map]; omega) | (repeat' first | assumption | exact Ext.refl _ | refine Ext.app ?_ _)) only [go_sem]; rfl); (repeat (first | refine q1 ?_ | refine q2 ?_ | refine q3 ?_ | refine q4 ?_ | refine q5 ?_ | refine q6 ?_ | refine q7 ?_ | refine q8 ?_ | refine q9 ?_ | refine qa ?_ | refine qb ?_ | refine qc ?_ | refine qd ?_ | refine qe (by decide) ?_ | refine qf ?_ | refine qg ?_)))); (try ((first | apply aops_until | apply adraw_until); (simp (disch := first | exact List.all_nil | omega | (simp only [go_sem]; done) | (simp only [ln, List.length_map]; omega) | (repeat' first | assumption | exact Ext.refl _ | refine Ext.app ?_ _)) only [go_sem]; rfl))))
  exact fin_1 rfl
end Go.Lq

namespace Go.Lq
open Go Go.ChangeShapes Go.WideShapes Go.ChangeAt Go.RowKit
open Go.Proofs

set_option maxRecDepth 100000 in
theorem lifted8 (os : Os) (started : os.Started) (X : Type) (enc : TypeId × Value → X) :
    ReturnsInHanded {} Tryd.checked os 8 .any (fun w args => (YtnciaodebdmfhaaDoor.Rows.grooveStraightSpec.pre enc Tryd.prog Tryd.f8 [] false w args ∧ laidMetH Tryd.prog laidAll w) ∧ sizedMet enc Tryd.prog Tryd.f8 (OpenSpec.ofChange YtnciaodebdmfhaaDoor.Rows.grooveStraightSpec) false w args)
      (YtnciaodebdmfhaaDoor.Rows.grooveStraightSpec.post enc Tryd.prog Tryd.f8 false true false false) := by
  refine returnsInHanded_of_change_and (C := Tryd.checked) (X := fun w _ => laidMetH Tryd.prog laidAll w) (fun _ _ _ hh h => h.of_heap hh) own_knob started (by kernel_rfl) Tryd.func8
    (ChangeSpec.witness_shaped (enc := enc) (C := Tryd.checked) (os := os) (X := fun w _ => laidMetH Tryd.prog laidAll w) false (World.doorLaid Tryd.prog 400 os) #[.agg #[.int .i64 0, .int .i64 0, .int .i64 0], .slice none 0 0, .int .i64 0] 12 rfl (door_shaped os _) (by kernel_rfl) (by kernel_rfl) (by kernel_rfl) (door_met os _)) ?_
  intro W base args ds gs before hval hW _ _ hL _
  have hWw := hW
  obtain ⟨p, q, hA, _⟩ := hW
  refine (calls_of_law (d := 20) (of_laid hL) globs glob_at hA (fun j t v h1 h2 => hval j t v (by simpa using h1) (by simpa using h2)) (by kernel_rfl) fun H avs hx h => ?_).mono fun e W' ⟨he, hB⟩ => ?_
  · exact law8 hx (by rw [show Tryd.f8.params = #[84, 51, 3] from Tryd.params8] at h; exact h)
  · subst he
    exact ⟨_, rfl, law_post (bt := 4) laid_out rfl Tryd.underlying4 (by kernel_rfl) (by kernel_rfl) hWw (fun ds hd => by
      rw [show Tryd.f8.params = #[84, 51, 3] from Tryd.params8] at hd
      match ds, hd with
      | [a, b, c], _ => rfl) hB⟩

theorem holds8 : YtnciaodebdmfhaaDoor.Rows.GrooveStraightSaid :=
  OpenClaim.holds_of_wide 8 Tryd.f8 rfl rfl rfl rfl rfl rfl rfl ⟨rfl, rfl, rfl, rfl, rfl⟩ rfl rfl rfl rfl rfl (by kernel_rfl) Tryd.func8 (by kernel_rfl)
    (of_decide_eq_true (by kernel_rfl)) (by unfold Func.isWrapper; first | (rw [if_pos (by decide +kernel)]; kernel_rfl) | (rw [if_neg (by decide +kernel)]; exact ⟨rfl, rfl⟩))
    (fun os started H enc _ => lifted8 os started H enc)
end Go.Lq
namespace Go.Proofs.YtnciaodebdmfhaaDoor
open Go Go.Lq
theorem grooveStraight_proved : Rows.GrooveStraightCardSaid :=
  Claim7.holds_tied_plain_at .later [] [.data] true (true, "5f68fd69e0af613bfa7fdf941acadd7d0a75623a0094cac3c296381243e153e3") false
    holds8 (fun _ h => by cases h) (by kernel_rfl) (fun _ h => by cases h) grooveStraight_row_tie rfl ⟨rfl, rfl⟩ main_is rfl
    (fun f fn hf hfn => by
      obtain rfl : f = 8 := Option.some.inj ((show Tryd.prog.funcNamed "lacquer/lacquerlaw02.GrooveStraight" = some 8 by kernel_rfl).symm.trans hf) |>.symm
      obtain rfl : fn = Tryd.f8 := (Option.some.inj (Tryd.func8.symm.trans hfn)).symm
      exact ⟨looks0, fun j t ht => by
        rw [Tryd.params8] at ht
        have hm : t ∈ [84, 51, 3] := by simpa using Array.mem_of_getElem? ht
        have hall : ([84, 51, 3].all fun u => !Tryd.prog.wantsStandIn u) = true := by kernel_rfl
        exact (show Tryd.prog.wantsStandIn t = false by simpa using List.all_eq_true.1 hall t hm)⟩)
    (by kernel_rfl)
end Go.Proofs.YtnciaodebdmfhaaDoor
