/- ResampleTakenBack is proved: for every input that can be read the law returns true, and each argument reads afterwards as it read before; the listed package variables hold what the program's text lays (the card ties them). -/
import Derived.Test.YtlcfgealkjomnaaDoorV151
set_option linter.unusedSimpArgs false
set_option maxRecDepth 100000
namespace Go.Lq
open Go
open Go.Proofs

def nilR (v : Value) (H : AHeap) : Option (Value × AHeap) := match v with | .pointer (some a) => some (.pointer (some a), H) | .func (.func f) xs ys => some (.func (.func f) xs ys, H) | _ => none
theorem r_nilCheck {ρ : Operand → Value} {H : AHeap} {x : Operand} : ropRun (.nilCheck x) ρ H = nilR (ρ x) H := rfl
theorem nil_ptr {a : Addr} {H : AHeap} : nilR (.pointer (some a)) H = some (.pointer (some a), H) := rfl
attribute [go_sem] r_nilCheck nil_ptr

theorem box_5 {a b c d e : Int} {H : AHeap} : boxR (.agg ⟨[.int .i64 a, .int .i64 b, .int .i64 c, .int .i64 d, .int .i64 e]⟩) H = some (.pointer (some ⟨H.length, 0, none⟩), H ++ [.cells true 0 [.int .i64 a, .int .i64 b, .int .i64 c, .int .i64 d, .int .i64 e]]) := box_agg rfl
theorem fill_35 {a b c : Int} : fillA [.int .i64 0, .int .i64 0, .int .i64 0, .int .i64 0, .int .i64 0] [(0, 3, .agg ⟨[.int .i64 a, .int .i64 b, .int .i64 c]⟩)] = some [.int .i64 a, .int .i64 b, .int .i64 c, .int .i64 0, .int .i64 0] := rfl
theorem n3_at {G : AHeap} {id : Nat} {a b c : Value} (h : G[id]? = some (.cells true 0 [a, b, c])) : loadNR 3 (.pointer (some ⟨id, 0, none⟩)) G = some (.agg ⟨[a, b, c]⟩, G) := loadN_at h (by simp)
theorem store_cell1 {H : AHeap} {id e k : Nat} {vs : List Value} {n : Int} (h : H[id]? = some (.cells true e vs)) (hk : k < vs.length) : storeR 1 (.pointer (some ⟨id, k, none⟩)) (.int .i64 n) H = some (undef, H.set id (.cells true e (vs.set k (.int .i64 n)))) := by
  have e1 : (Value.int .i64 n).cells = ⟨[.int .i64 n]⟩ := rfl
  simp only [storeR, e1, List.size_toArray, storeAt, h, List.length_cons, List.length_nil]
  rw [setCells_one _ _ _ hk]
  simp [isAtom_int]
  omega

def eqErrL (f s d : Int) : Int := if (-1000 ≤ f ∧ f ≤ 1000) ∧ (-1000 ≤ s ∧ s ≤ 1000) ∧ (1 ≤ d ∧ d ≤ 1000) then 0 else 2
theorem eqErr_ok {f s d : Int} (h : eqErrL f s d = 0) : (-1000 ≤ f ∧ f ≤ 1000) ∧ (-1000 ≤ s ∧ s ≤ 1000) ∧ (1 ≤ d ∧ d ≤ 1000) := by
  unfold eqErrL at h
  split at h
  · rename_i h1; exact h1
  · cases h
def eqRes : Option (List Int) → List Int × Int
  | some y => (y, 0)
  | none => ([], 23)
def equalizedL (f s d : Int) (x : List Int) : List Int × Int :=
  if eqErrL f s d = 0 then (if signalErrL x = 0 then eqRes (eqGo f s d 0 0 x) else ([], signalErrL x)) else ([], eqErrL f s d)
def outErrL (y : List Int) : Int := if 400 < y.length then 8 else if y.all (fun n => decide (-1000000000000000 ≤ n ∧ n ≤ 1000000000000000)) = true then 0 else 2
theorem outErr_ok {x : List Int} (h : outErrL x = 0) : x.length ≤ 400 ∧ ∀ i : Nat, -1000000000000000 ≤ x.getD i 0 ∧ x.getD i 0 ≤ 1000000000000000 := by
  unfold outErrL at h
  split at h
  · cases h
  · split at h
    · rename_i h1 h2; exact ⟨by omega, all_sized (by decide) h2⟩
    · cases h
def restoredL (f s d : Int) (y : List Int) : List Int × Int :=
  if eqErrL f s d = 0 then (if outErrL y = 0 then (unGo f s d 0 0 y, 0) else ([], outErrL y)) else ([], eqErrL f s d)

section
variable {H : AHeap}
theorem checkEqualizer_c (f s d : Int) : ACall Go.Proofs.Tryd.prog 72 [.agg ⟨[.int .i64 f, .int .i64 s, .int .i64 d]⟩] H fun w H' => w = .int .i64 (eqErrL f s d) ∧ H' = H := by
  refine ACall.drop (.int _ _) ?_
  (refine a72 ?_; simp only [n72, List.replicate, List.length_cons, List.length_nil, List.cons_append, List.nil_append])
  have g0 : (H ++ [AObj.cells true 0 [.int .i64 f, .int .i64 s, .int .i64 d]])[H.length]? = some (.cells true 0 [.int .i64 f, .int .i64 s, .int .i64 d]) := at_new
  have xG : Ext H (H ++ [AObj.cells true 0 [.int .i64 f, .int .i64 s, .int .i64 d]]) := (Ext.refl H).app _
  ((repeat (first | refine q1 ?_ | refine q2 ?_ | refine q3 ?_ | refine q4 ?_ | refine q5 ?_ | refine q6 ?_ | refine q7 ?_ | refine q8 ?_ | refine q9 ?_ | refine qa ?_ | refine qb ?_ | refine qc ?_ | refine qd ?_ | refine qe (by decide) ?_ | refine qf ?_ | refine qg ?_ | ((first | apply aops_all | apply adraw_all); (simp (disch := first | exact List.all_nil | omega | (simp only [go_sem]; done) | (simp only [ln, List.length_map]; omega) | (repeat' first | assumption | exact Ext.refl _ | refine Ext.app ?_ _)) only [go_sem, box_3, load_at g0]; rfl)))); (try ((first | apply aops_until | apply adraw_until); (simp (disch := first | exact List.all_nil | omega | (simp only [go_sem]; done) | (simp only [ln, List.length_map]; omega) | (repeat' first | assumption | exact Ext.refl _ | refine Ext.app ?_ _)) only [go_sem, box_3, load_at g0]; rfl))))
  generalize (H ++ [AObj.cells true 0 [.int .i64 f, .int .i64 s, .int .i64 d]] : AHeap) = G at g0 xG
  refine aops_call_to (isWeight_c _) ?_
  by_cases h1 : -1000 ≤ f ∧ f ≤ 1000
  rotate_left 1
  · ((repeat (first | refine q1 ?_ | refine q2 ?_ | refine q3 ?_ | refine q4 ?_ | refine q5 ?_ | refine q6 ?_ | refine q7 ?_ | refine q8 ?_ | refine q9 ?_ | refine qa ?_ | refine qb ?_ | refine qc ?_ | refine qd ?_ | refine qe (by decide) ?_ | refine qf ?_ | refine qg ?_ | ((first | apply aops_all | apply adraw_all); (simp (disch := first | exact List.all_nil | omega | (simp only [go_sem]; done) | (simp only [ln, List.length_map]; omega) | (repeat' first | assumption | exact Ext.refl _ | refine Ext.app ?_ _)) only [go_sem, load_at g0, dec_f h1]; rfl)))); (try ((first | apply aops_until | apply adraw_until); (simp (disch := first | exact List.all_nil | omega | (simp only [go_sem]; done) | (simp only [ln, List.length_map]; omega) | (repeat' first | assumption | exact Ext.refl _ | refine Ext.app ?_ _)) only [go_sem, load_at g0, dec_f h1]; rfl))))
    refine aops_call_to (unless_c _ _) ?_
    ((repeat (first | refine q1 ?_ | refine q2 ?_ | refine q3 ?_ | refine q4 ?_ | refine q5 ?_ | refine q6 ?_ | refine q7 ?_ | refine q8 ?_ | refine q9 ?_ | refine qa ?_ | refine qb ?_ | refine qc ?_ | refine qd ?_ | refine qe (by decide) ?_ | refine qf ?_ | refine qg ?_ | ((first | apply aops_all | apply adraw_all); (simp (disch := first | exact List.all_nil | omega | (simp only [go_sem]; done) | (simp only [ln, List.length_map]; omega) | (repeat' first | assumption | exact Ext.refl _ | refine Ext.app ?_ _)) only [go_sem]; rfl)))); (try ((first | apply aops_until | apply adraw_until); (simp (disch := first | exact List.all_nil | omega | (simp only [go_sem]; done) | (simp only [ln, List.length_map]; omega) | (repeat' first | assumption | exact Ext.refl _ | refine Ext.app ?_ _)) only [go_sem]; rfl))))
    exact fin_1 ⟨by unfold eqErrL; rw [if_neg (fun h => h1 h.1)]; rfl, xG⟩
  ((repeat (first | refine q1 ?_ | refine q2 ?_ | refine q3 ?_ | refine q4 ?_ | refine q5 ?_ | refine q6 ?_ | refine q7 ?_ | refine q8 ?_ | refine q9 ?_ | refine qa ?_ | refine qb ?_ | refine qc ?_ | refine qd ?_ | refine qe (by decide) ?_ | refine qf ?_ | refine qg ?_ | ((first | apply aops_all | apply adraw_all); (simp (disch := first | exact List.all_nil | omega | (simp only [go_sem]; done) | (simp only [ln, List.length_map]; omega) | (repeat' first | assumption | exact Ext.refl _ | refine Ext.app ?_ _)) only [go_sem, load_at g0, dec_t h1]; rfl)))); (try ((first | apply aops_until | apply adraw_until); (simp (disch := first | exact List.all_nil | omega | (simp only [go_sem]; done) | (simp only [ln, List.length_map]; omega) | (repeat' first | assumption | exact Ext.refl _ | refine Ext.app ?_ _)) only [go_sem, load_at g0, dec_t h1]; rfl))))
  refine aops_call_to (isWeight_c _) ?_
  by_cases h2 : -1000 ≤ s ∧ s ≤ 1000
  rotate_left 1
  · ((repeat (first | refine q1 ?_ | refine q2 ?_ | refine q3 ?_ | refine q4 ?_ | refine q5 ?_ | refine q6 ?_ | refine q7 ?_ | refine q8 ?_ | refine q9 ?_ | refine qa ?_ | refine qb ?_ | refine qc ?_ | refine qd ?_ | refine qe (by decide) ?_ | refine qf ?_ | refine qg ?_ | ((first | apply aops_all | apply adraw_all); (simp (disch := first | exact List.all_nil | omega | (simp only [go_sem]; done) | (simp only [ln, List.length_map]; omega) | (repeat' first | assumption | exact Ext.refl _ | refine Ext.app ?_ _)) only [go_sem, load_at g0, dec_f h2]; rfl)))); (try ((first | apply aops_until | apply adraw_until); (simp (disch := first | exact List.all_nil | omega | (simp only [go_sem]; done) | (simp only [ln, List.length_map]; omega) | (repeat' first | assumption | exact Ext.refl _ | refine Ext.app ?_ _)) only [go_sem, load_at g0, dec_f h2]; rfl))))
    refine aops_call_to (unless_c _ _) ?_
    ((repeat (first | refine q1 ?_ | refine q2 ?_ | refine q3 ?_ | refine q4 ?_ | refine q5 ?_ | refine q6 ?_ | refine q7 ?_ | refine q8 ?_ | refine q9 ?_ | refine qa ?_ | refine qb ?_ | refine qc ?_ | refine qd ?_ | refine qe (by decide) ?_ | refine qf ?_ | refine qg ?_ | ((first | apply aops_all | apply adraw_all); (simp (disch := first | exact List.all_nil | omega | (simp only [go_sem]; done) | (simp only [ln, List.length_map]; omega) | (repeat' first | assumption | exact Ext.refl _ | refine Ext.app ?_ _)) only [go_sem]; rfl)))); (try ((first | apply aops_until | apply adraw_until); (simp (disch := first | exact List.all_nil | omega | (simp only [go_sem]; done) | (simp only [ln, List.length_map]; omega) | (repeat' first | assumption | exact Ext.refl _ | refine Ext.app ?_ _)) only [go_sem]; rfl))))
    exact fin_1 ⟨by unfold eqErrL; rw [if_neg (fun h => h2 h.2.1)]; rfl, xG⟩
  ((repeat (first | refine q1 ?_ | refine q2 ?_ | refine q3 ?_ | refine q4 ?_ | refine q5 ?_ | refine q6 ?_ | refine q7 ?_ | refine q8 ?_ | refine q9 ?_ | refine qa ?_ | refine qb ?_ | refine qc ?_ | refine qd ?_ | refine qe (by decide) ?_ | refine qf ?_ | refine qg ?_ | ((first | apply aops_all | apply adraw_all); (simp (disch := first | exact List.all_nil | omega | (simp only [go_sem]; done) | (simp only [ln, List.length_map]; omega) | (repeat' first | assumption | exact Ext.refl _ | refine Ext.app ?_ _)) only [go_sem, load_at g0, dec_t h2]; rfl)))); (try ((first | apply aops_until | apply adraw_until); (simp (disch := first | exact List.all_nil | omega | (simp only [go_sem]; done) | (simp only [ln, List.length_map]; omega) | (repeat' first | assumption | exact Ext.refl _ | refine Ext.app ?_ _)) only [go_sem, load_at g0, dec_t h2]; rfl))))
  refine aops_call_to (isDen_c _) ?_
  ((repeat (first | refine q1 ?_ | refine q2 ?_ | refine q3 ?_ | refine q4 ?_ | refine q5 ?_ | refine q6 ?_ | refine q7 ?_ | refine q8 ?_ | refine q9 ?_ | refine qa ?_ | refine qb ?_ | refine qc ?_ | refine qd ?_ | refine qe (by decide) ?_ | refine qf ?_ | refine qg ?_ | ((first | apply aops_all | apply adraw_all); (simp (disch := first | exact List.all_nil | omega | (simp only [go_sem]; done) | (simp only [ln, List.length_map]; omega) | (repeat' first | assumption | exact Ext.refl _ | refine Ext.app ?_ _)) only [go_sem]; rfl)))); (try ((first | apply aops_until | apply adraw_until); (simp (disch := first | exact List.all_nil | omega | (simp only [go_sem]; done) | (simp only [ln, List.length_map]; omega) | (repeat' first | assumption | exact Ext.refl _ | refine Ext.app ?_ _)) only [go_sem]; rfl))))
  refine aops_call_to (unless_c _ _) ?_
  by_cases h3 : 1 ≤ d ∧ d ≤ 1000
  · ((repeat (first | refine q1 ?_ | refine q2 ?_ | refine q3 ?_ | refine q4 ?_ | refine q5 ?_ | refine q6 ?_ | refine q7 ?_ | refine q8 ?_ | refine q9 ?_ | refine qa ?_ | refine qb ?_ | refine qc ?_ | refine qd ?_ | refine qe (by decide) ?_ | refine qf ?_ | refine qg ?_ | ((first | apply aops_all | apply adraw_all); (simp (disch := first | exact List.all_nil | omega | (simp only [go_sem]; done) | (simp only [ln, List.length_map]; omega) | (repeat' first | assumption | exact Ext.refl _ | refine Ext.app ?_ _)) only [go_sem, dec_t h3]; rfl)))); (try ((first | apply aops_until | apply adraw_until); (simp (disch := first | exact List.all_nil | omega | (simp only [go_sem]; done) | (simp only [ln, List.length_map]; omega) | (repeat' first | assumption | exact Ext.refl _ | refine Ext.app ?_ _)) only [go_sem, dec_t h3]; rfl))))
    exact fin_1 ⟨by unfold eqErrL; rw [if_pos ⟨h1, h2, h3⟩]; rfl, xG⟩
  · ((repeat (first | refine q1 ?_ | refine q2 ?_ | refine q3 ?_ | refine q4 ?_ | refine q5 ?_ | refine q6 ?_ | refine q7 ?_ | refine q8 ?_ | refine q9 ?_ | refine qa ?_ | refine qb ?_ | refine qc ?_ | refine qd ?_ | refine qe (by decide) ?_ | refine qf ?_ | refine qg ?_ | ((first | apply aops_all | apply adraw_all); (simp (disch := first | exact List.all_nil | omega | (simp only [go_sem]; done) | (simp only [ln, List.length_map]; omega) | (repeat' first | assumption | exact Ext.refl _ | refine Ext.app ?_ _)) only [go_sem, dec_f h3]; rfl)))); (try ((first | apply aops_until | apply adraw_until); (simp (disch := first | exact List.all_nil | omega | (simp only [go_sem]; done) | (simp only [ln, List.length_map]; omega) | (repeat' first | assumption | exact Ext.refl _ | refine Ext.app ?_ _)) only [go_sem, dec_f h3]; rfl))))
    exact fin_1 ⟨by unfold eqErrL; rw [if_neg (fun h => h3 h.2.2)]; rfl, xG⟩
theorem refEqErr_c (f s d : Int) : ACall Go.Proofs.Tryd.prog 43 [.agg ⟨[.int .i64 f, .int .i64 s, .int .i64 d]⟩] H fun w H' => w = .int .i64 (eqErrL f s d) ∧ H' = H := by
  refine ACall.drop (.int _ _) ?_
  (refine a43 ?_; simp only [n43, List.replicate, List.length_cons, List.length_nil, List.cons_append, List.nil_append])
  have g0 : (H ++ [AObj.cells true 0 [.int .i64 f, .int .i64 s, .int .i64 d]])[H.length]? = some (.cells true 0 [.int .i64 f, .int .i64 s, .int .i64 d]) := at_new
  have xG : Ext H (H ++ [AObj.cells true 0 [.int .i64 f, .int .i64 s, .int .i64 d]]) := (Ext.refl H).app _
  ((repeat (first | refine q1 ?_ | refine q2 ?_ | refine q3 ?_ | refine q4 ?_ | refine q5 ?_ | refine q6 ?_ | refine q7 ?_ | refine q8 ?_ | refine q9 ?_ | refine qa ?_ | refine qb ?_ | refine qc ?_ | refine qd ?_ | refine qe (by decide) ?_ | refine qf ?_ | refine qg ?_ | ((first | apply aops_all | apply adraw_all); (simp (disch := first | exact List.all_nil | omega | (simp only [go_sem]; done) | (simp only [ln, List.length_map]; omega) | (repeat' first | assumption | exact Ext.refl _ | refine Ext.app ?_ _)) only [go_sem, box_3, load_at g0]; rfl)))); (try ((first | apply aops_until | apply adraw_until); (simp (disch := first | exact List.all_nil | omega | (simp only [go_sem]; done) | (simp only [ln, List.length_map]; omega) | (repeat' first | assumption | exact Ext.refl _ | refine Ext.app ?_ _)) only [go_sem, box_3, load_at g0]; rfl))))
  generalize (H ++ [AObj.cells true 0 [.int .i64 f, .int .i64 s, .int .i64 d]] : AHeap) = G at g0 xG
  refine aops_call_to (bwithin_c _ _ _) ?_
  by_cases h1 : -1000 ≤ f ∧ f ≤ 1000
  rotate_left 1
  · ((repeat (first | refine q1 ?_ | refine q2 ?_ | refine q3 ?_ | refine q4 ?_ | refine q5 ?_ | refine q6 ?_ | refine q7 ?_ | refine q8 ?_ | refine q9 ?_ | refine qa ?_ | refine qb ?_ | refine qc ?_ | refine qd ?_ | refine qe (by decide) ?_ | refine qf ?_ | refine qg ?_ | ((first | apply aops_all | apply adraw_all); (simp (disch := first | exact List.all_nil | omega | (simp only [go_sem]; done) | (simp only [ln, List.length_map]; omega) | (repeat' first | assumption | exact Ext.refl _ | refine Ext.app ?_ _)) only [go_sem, load_at g0, dec_f h1]; rfl)))); (try ((first | apply aops_until | apply adraw_until); (simp (disch := first | exact List.all_nil | omega | (simp only [go_sem]; done) | (simp only [ln, List.length_map]; omega) | (repeat' first | assumption | exact Ext.refl _ | refine Ext.app ?_ _)) only [go_sem, load_at g0, dec_f h1]; rfl))))
    refine cond_t rfl ?_
    ((repeat (first | refine q1 ?_ | refine q2 ?_ | refine q3 ?_ | refine q4 ?_ | refine q5 ?_ | refine q6 ?_ | refine q7 ?_ | refine q8 ?_ | refine q9 ?_ | refine qa ?_ | refine qb ?_ | refine qc ?_ | refine qd ?_ | refine qe (by decide) ?_ | refine qf ?_ | refine qg ?_ | ((first | apply aops_all | apply adraw_all); (simp (disch := first | exact List.all_nil | omega | (simp only [go_sem]; done) | (simp only [ln, List.length_map]; omega) | (repeat' first | assumption | exact Ext.refl _ | refine Ext.app ?_ _)) only [go_sem]; rfl)))); (try ((first | apply aops_until | apply adraw_until); (simp (disch := first | exact List.all_nil | omega | (simp only [go_sem]; done) | (simp only [ln, List.length_map]; omega) | (repeat' first | assumption | exact Ext.refl _ | refine Ext.app ?_ _)) only [go_sem]; rfl))))
    exact fin_1 ⟨by unfold eqErrL; rw [if_neg (fun h => h1 h.1)]; rfl, xG⟩
  ((repeat (first | refine q1 ?_ | refine q2 ?_ | refine q3 ?_ | refine q4 ?_ | refine q5 ?_ | refine q6 ?_ | refine q7 ?_ | refine q8 ?_ | refine q9 ?_ | refine qa ?_ | refine qb ?_ | refine qc ?_ | refine qd ?_ | refine qe (by decide) ?_ | refine qf ?_ | refine qg ?_ | ((first | apply aops_all | apply adraw_all); (simp (disch := first | exact List.all_nil | omega | (simp only [go_sem]; done) | (simp only [ln, List.length_map]; omega) | (repeat' first | assumption | exact Ext.refl _ | refine Ext.app ?_ _)) only [go_sem, load_at g0, dec_t h1]; rfl)))); (try ((first | apply aops_until | apply adraw_until); (simp (disch := first | exact List.all_nil | omega | (simp only [go_sem]; done) | (simp only [ln, List.length_map]; omega) | (repeat' first | assumption | exact Ext.refl _ | refine Ext.app ?_ _)) only [go_sem, load_at g0, dec_t h1]; rfl))))
  refine aops_call_to (bwithin_c _ _ _) ?_
  by_cases h2 : -1000 ≤ s ∧ s ≤ 1000
  rotate_left 1
  · ((repeat (first | refine q1 ?_ | refine q2 ?_ | refine q3 ?_ | refine q4 ?_ | refine q5 ?_ | refine q6 ?_ | refine q7 ?_ | refine q8 ?_ | refine q9 ?_ | refine qa ?_ | refine qb ?_ | refine qc ?_ | refine qd ?_ | refine qe (by decide) ?_ | refine qf ?_ | refine qg ?_ | ((first | apply aops_all | apply adraw_all); (simp (disch := first | exact List.all_nil | omega | (simp only [go_sem]; done) | (simp only [ln, List.length_map]; omega) | (repeat' first | assumption | exact Ext.refl _ | refine Ext.app ?_ _)) only [go_sem, load_at g0, dec_f h2]; rfl)))); (try ((first | apply aops_until | apply adraw_until); (simp (disch := first | exact List.all_nil | omega | (simp only [go_sem]; done) | (simp only [ln, List.length_map]; omega) | (repeat' first | assumption | exact Ext.refl _ | refine Ext.app ?_ _)) only [go_sem, load_at g0, dec_f h2]; rfl))))
    refine cond_t rfl ?_
    ((repeat (first | refine q1 ?_ | refine q2 ?_ | refine q3 ?_ | refine q4 ?_ | refine q5 ?_ | refine q6 ?_ | refine q7 ?_ | refine q8 ?_ | refine q9 ?_ | refine qa ?_ | refine qb ?_ | refine qc ?_ | refine qd ?_ | refine qe (by decide) ?_ | refine qf ?_ | refine qg ?_ | ((first | apply aops_all | apply adraw_all); (simp (disch := first | exact List.all_nil | omega | (simp only [go_sem]; done) | (simp only [ln, List.length_map]; omega) | (repeat' first | assumption | exact Ext.refl _ | refine Ext.app ?_ _)) only [go_sem]; rfl)))); (try ((first | apply aops_until | apply adraw_until); (simp (disch := first | exact List.all_nil | omega | (simp only [go_sem]; done) | (simp only [ln, List.length_map]; omega) | (repeat' first | assumption | exact Ext.refl _ | refine Ext.app ?_ _)) only [go_sem]; rfl))))
    exact fin_1 ⟨by unfold eqErrL; rw [if_neg (fun h => h2 h.2.1)]; rfl, xG⟩
  ((repeat (first | refine q1 ?_ | refine q2 ?_ | refine q3 ?_ | refine q4 ?_ | refine q5 ?_ | refine q6 ?_ | refine q7 ?_ | refine q8 ?_ | refine q9 ?_ | refine qa ?_ | refine qb ?_ | refine qc ?_ | refine qd ?_ | refine qe (by decide) ?_ | refine qf ?_ | refine qg ?_ | ((first | apply aops_all | apply adraw_all); (simp (disch := first | exact List.all_nil | omega | (simp only [go_sem]; done) | (simp only [ln, List.length_map]; omega) | (repeat' first | assumption | exact Ext.refl _ | refine Ext.app ?_ _)) only [go_sem, load_at g0, dec_t h2]; rfl)))); (try ((first | apply aops_until | apply adraw_until); (simp (disch := first | exact List.all_nil | omega | (simp only [go_sem]; done) | (simp only [ln, List.length_map]; omega) | (repeat' first | assumption | exact Ext.refl _ | refine Ext.app ?_ _)) only [go_sem, load_at g0, dec_t h2]; rfl))))
  refine aops_call_to (bwithin_c _ _ _) ?_
  by_cases h3 : 1 ≤ d ∧ d ≤ 1000
  · ((repeat (first | refine q1 ?_ | refine q2 ?_ | refine q3 ?_ | refine q4 ?_ | refine q5 ?_ | refine q6 ?_ | refine q7 ?_ | refine q8 ?_ | refine q9 ?_ | refine qa ?_ | refine qb ?_ | refine qc ?_ | refine qd ?_ | refine qe (by decide) ?_ | refine qf ?_ | refine qg ?_ | ((first | apply aops_all | apply adraw_all); (simp (disch := first | exact List.all_nil | omega | (simp only [go_sem]; done) | (simp only [ln, List.length_map]; omega) | (repeat' first | assumption | exact Ext.refl _ | refine Ext.app ?_ _)) only [go_sem, dec_t h3]; rfl)))); (try ((first | apply aops_until | apply adraw_until); (simp (disch := first | exact List.all_nil | omega | (simp only [go_sem]; done) | (simp only [ln, List.length_map]; omega) | (repeat' first | assumption | exact Ext.refl _ | refine Ext.app ?_ _)) only [go_sem, dec_t h3]; rfl))))
    refine cond_f rfl ?_
    ((repeat (first | refine q1 ?_ | refine q2 ?_ | refine q3 ?_ | refine q4 ?_ | refine q5 ?_ | refine q6 ?_ | refine q7 ?_ | refine q8 ?_ | refine q9 ?_ | refine qa ?_ | refine qb ?_ | refine qc ?_ | refine qd ?_ | refine qe (by decide) ?_ | refine qf ?_ | refine qg ?_ | ((first | apply aops_all | apply adraw_all); (simp (disch := first | exact List.all_nil | omega | (simp only [go_sem]; done) | (simp only [ln, List.length_map]; omega) | (repeat' first | assumption | exact Ext.refl _ | refine Ext.app ?_ _)) only [go_sem]; rfl)))); (try ((first | apply aops_until | apply adraw_until); (simp (disch := first | exact List.all_nil | omega | (simp only [go_sem]; done) | (simp only [ln, List.length_map]; omega) | (repeat' first | assumption | exact Ext.refl _ | refine Ext.app ?_ _)) only [go_sem]; rfl))))
    exact fin_1 ⟨by unfold eqErrL; rw [if_pos ⟨h1, h2, h3⟩]; rfl, xG⟩
  · ((repeat (first | refine q1 ?_ | refine q2 ?_ | refine q3 ?_ | refine q4 ?_ | refine q5 ?_ | refine q6 ?_ | refine q7 ?_ | refine q8 ?_ | refine q9 ?_ | refine qa ?_ | refine qb ?_ | refine qc ?_ | refine qd ?_ | refine qe (by decide) ?_ | refine qf ?_ | refine qg ?_ | ((first | apply aops_all | apply adraw_all); (simp (disch := first | exact List.all_nil | omega | (simp only [go_sem]; done) | (simp only [ln, List.length_map]; omega) | (repeat' first | assumption | exact Ext.refl _ | refine Ext.app ?_ _)) only [go_sem, dec_f h3]; rfl)))); (try ((first | apply aops_until | apply adraw_until); (simp (disch := first | exact List.all_nil | omega | (simp only [go_sem]; done) | (simp only [ln, List.length_map]; omega) | (repeat' first | assumption | exact Ext.refl _ | refine Ext.app ?_ _)) only [go_sem, dec_f h3]; rfl))))
    refine cond_t rfl ?_
    ((repeat (first | refine q1 ?_ | refine q2 ?_ | refine q3 ?_ | refine q4 ?_ | refine q5 ?_ | refine q6 ?_ | refine q7 ?_ | refine q8 ?_ | refine q9 ?_ | refine qa ?_ | refine qb ?_ | refine qc ?_ | refine qd ?_ | refine qe (by decide) ?_ | refine qf ?_ | refine qg ?_ | ((first | apply aops_all | apply adraw_all); (simp (disch := first | exact List.all_nil | omega | (simp only [go_sem]; done) | (simp only [ln, List.length_map]; omega) | (repeat' first | assumption | exact Ext.refl _ | refine Ext.app ?_ _)) only [go_sem]; rfl)))); (try ((first | apply aops_until | apply adraw_until); (simp (disch := first | exact List.all_nil | omega | (simp only [go_sem]; done) | (simp only [ln, List.length_map]; omega) | (repeat' first | assumption | exact Ext.refl _ | refine Ext.app ?_ _)) only [go_sem]; rfl))))
    exact fin_1 ⟨by unfold eqErrL; rw [if_neg (fun h => h3 h.2.2)]; rfl, xG⟩

theorem prod_bound {f s a b : Int} (hf : -1000 ≤ f ∧ f ≤ 1000) (hs : -1000 ≤ s ∧ s ≤ 1000) (ha : -1000000000000000 ≤ a ∧ a ≤ 1000000000000000) (hb : -1000000000000000 ≤ b ∧ b ≤ 1000000000000000) :
    (-1000000000000000000 ≤ f * a ∧ f * a ≤ 1000000000000000000) ∧ (-1000000000000000000 ≤ s * b ∧ s * b ≤ 1000000000000000000) := by
  have h1 := mul_abs (x := f) (y := a) (a := 1000) (b := 1000000000000000) (by omega) (by omega)
  have h2 := mul_abs (x := s) (y := b) (a := 1000) (b := 1000000000000000) (by omega) (by omega)
  omega
theorem added_bound {f s d a b : Int} (he : eqErrL f s d = 0) (ha : -1000000000000000 ≤ a ∧ a ≤ 1000000000000000) (hb : -1000000000000000 ≤ b ∧ b ≤ 1000000000000000) : -2000000000000000000 ≤ addedI f s d a b ∧ addedI f s d a b ≤ 2000000000000000000 := by
  obtain ⟨h1, h2, h3⟩ := eqErr_ok he
  obtain ⟨p1, p2⟩ := prod_bound h1 h2 ha hb
  have := ediv_bound (n := f * a + s * b) (b := d) (m := 2000000000000000000) (by omega) (by omega)
  unfold addedI
  omega
theorem added_c {f s d a b : Int} {id : Nat} (hm : H[id]? = some (.cells true 0 [.int .i64 f, .int .i64 s, .int .i64 d, .int .i64 a, .int .i64 b])) (he : eqErrL f s d = 0) (ha : -1000000000000000 ≤ a ∧ a ≤ 1000000000000000) (hb : -1000000000000000 ≤ b ∧ b ≤ 1000000000000000) :
    ACall Go.Proofs.Tryd.prog 117 [.pointer (some ⟨id, 0, none⟩)] H fun w H' => w = .int .i64 (addedI f s d a b) ∧ H' = H := by
  obtain ⟨h1, h2, h3⟩ := eqErr_ok he
  obtain ⟨p1, p2⟩ := prod_bound h1 h2 ha hb
  (refine a117 ?_; simp only [n117, List.replicate, List.length_cons, List.length_nil, List.cons_append, List.nil_append])
  ((repeat (first | refine q1 ?_ | refine q2 ?_ | refine q3 ?_ | refine q4 ?_ | refine q5 ?_ | refine q6 ?_ | refine q7 ?_ | refine q8 ?_ | refine q9 ?_ | refine qa ?_ | refine qb ?_ | refine qc ?_ | refine qd ?_ | refine qe (by decide) ?_ | refine qf ?_ | refine qg ?_ | ((first | apply aops_all | apply adraw_all); (simp (disch := first | exact List.all_nil | omega | (simp only [go_sem]; done) | (simp only [ln, List.length_map]; omega) | (repeat' first | assumption | exact Ext.refl _ | refine Ext.app ?_ _)) only [go_sem, load_at hm]; rfl)))); (try ((first | apply aops_until | apply adraw_until); (simp (disch := first | exact List.all_nil | omega | (simp only [go_sem]; done) | (simp only [ln, List.length_map]; omega) | (repeat' first | assumption | exact Ext.refl _ | refine Ext.app ?_ _)) only [go_sem, load_at hm]; rfl))))
  refine adraw_call (N := []) (firstD (rfloor_c _ _ (by omega) (by omega))) ?_
  rw [List.append_nil]
  ((repeat (first | refine q1 ?_ | refine q2 ?_ | refine q3 ?_ | refine q4 ?_ | refine q5 ?_ | refine q6 ?_ | refine q7 ?_ | refine q8 ?_ | refine q9 ?_ | refine qa ?_ | refine qb ?_ | refine qc ?_ | refine qd ?_ | refine qe (by decide) ?_ | refine qf ?_ | refine qg ?_ | ((first | apply aops_all | apply adraw_all); (simp (disch := first | exact List.all_nil | omega | (simp only [go_sem]; done) | (simp only [ln, List.length_map]; omega) | (repeat' first | assumption | exact Ext.refl _ | refine Ext.app ?_ _)) only [go_sem]; rfl)))); (try ((first | apply aops_until | apply adraw_until); (simp (disch := first | exact List.all_nil | omega | (simp only [go_sem]; done) | (simp only [ln, List.length_map]; omega) | (repeat' first | assumption | exact Ext.refl _ | refine Ext.app ?_ _)) only [go_sem]; rfl))))
  exact fin_1 ⟨rfl, rfl⟩
theorem push_c {f s d a b y : Int} {id : Nat} (hm : H[id]? = some (.cells true 0 [.int .i64 f, .int .i64 s, .int .i64 d, .int .i64 a, .int .i64 b])) :
    ACall Go.Proofs.Tryd.prog 119 [.pointer (some ⟨id, 0, none⟩), .int .i64 y] H fun _ H' => H' = H.set id (.cells true 0 [.int .i64 f, .int .i64 s, .int .i64 d, .int .i64 y, .int .i64 a]) := by
  (refine a119 ?_; simp only [n119, List.replicate, List.length_cons, List.length_nil, List.cons_append, List.nil_append])
  have s1 := store_cell1 (k := 3) (n := y) hm (by simp)
  have m2 := get_set_self (d := AObj.cells true 0 [.int .i64 f, .int .i64 s, .int .i64 d, .int .i64 y, .int .i64 b]) hm
  have s2 := store_cell1 (k := 4) (n := a) m2 (by simp)
  simp only [List.set_cons_succ, List.set_cons_zero, set_set] at s1 s2
  ((repeat (first | refine q1 ?_ | refine q2 ?_ | refine q3 ?_ | refine q4 ?_ | refine q5 ?_ | refine q6 ?_ | refine q7 ?_ | refine q8 ?_ | refine q9 ?_ | refine qa ?_ | refine qb ?_ | refine qc ?_ | refine qd ?_ | refine qe (by decide) ?_ | refine qf ?_ | refine qg ?_ | ((first | apply aops_all | apply adraw_all); (simp (disch := first | exact List.all_nil | omega | (simp only [go_sem]; done) | (simp only [ln, List.length_map]; omega) | (repeat' first | assumption | exact Ext.refl _ | refine Ext.app ?_ _)) only [go_sem, load_at hm, s1, s2]; rfl)))); (try ((first | apply aops_until | apply adraw_until); (simp (disch := first | exact List.all_nil | omega | (simp only [go_sem]; done) | (simp only [ln, List.length_map]; omega) | (repeat' first | assumption | exact Ext.refl _ | refine Ext.app ?_ _)) only [go_sem, load_at hm, s1, s2]; rfl))))
  exact ⟨.inl rfl, _, rfl, rfl⟩
end
end Go.Lq

namespace Go.Lq
open Go
open Go.Proofs

theorem eqGo_cons {f s d a b x : Int} {t : List Int} : eqGo f s d a b (x :: t) = if -1000000000000000 ≤ x + addedI f s d a b ∧ x + addedI f s d a b ≤ 1000000000000000 then (eqGo f s d (x + addedI f s d a b) a t).map (fun r => (x + addedI f s d a b) :: r) else none := rfl
theorem map_map_app {o : Option (List Int)} {out : List Int} {y : Int} : (o.map (fun r => y :: r)).map (fun r => out ++ r) = o.map (fun r => (out ++ [y]) ++ r) := by cases o <;> simp

section
variable {H : AHeap}
set_option maxHeartbeats 1000000 in
theorem equalized_c {f s d : Int} {x : List Int} {w : Value} (hx : Ints H x w) (hxb : x.length ≤ 1000000000) :
    ACall Go.Proofs.Tryd.prog 61 [.agg ⟨[.int .i64 f, .int .i64 s, .int .i64 d]⟩, w] H (IntsRes H (equalizedL f s d x).1 (equalizedL f s d x).2) := by
  refine ACall.intsE ?_
  (refine a61 ?_; simp only [n61, List.replicate, List.length_cons, List.length_nil, List.cons_append, List.nil_append])
  have g0 : (H ++ [AObj.cells true 0 [.int .i64 f, .int .i64 s, .int .i64 d]])[H.length]? = some (.cells true 0 [.int .i64 f, .int .i64 s, .int .i64 d]) := at_new
  have xG : Ext H (H ++ [AObj.cells true 0 [.int .i64 f, .int .i64 s, .int .i64 d]]) := (Ext.refl H).app _
  ((repeat (first | refine q1 ?_ | refine q2 ?_ | refine q3 ?_ | refine q4 ?_ | refine q5 ?_ | refine q6 ?_ | refine q7 ?_ | refine q8 ?_ | refine q9 ?_ | refine qa ?_ | refine qb ?_ | refine qc ?_ | refine qd ?_ | refine qe (by decide) ?_ | refine qf ?_ | refine qg ?_ | ((first | apply aops_all | apply adraw_all); (simp (disch := first | exact List.all_nil | omega | (simp only [go_sem]; done) | (simp only [ln, List.length_map]; omega) | (repeat' first | assumption | exact Ext.refl _ | refine Ext.app ?_ _)) only [go_sem, box_3, n3_at g0]; rfl)))); (try ((first | apply aops_until | apply adraw_until); (simp (disch := first | exact List.all_nil | omega | (simp only [go_sem]; done) | (simp only [ln, List.length_map]; omega) | (repeat' first | assumption | exact Ext.refl _ | refine Ext.app ?_ _)) only [go_sem, box_3, n3_at g0]; rfl))))
  generalize (H ++ [AObj.cells true 0 [.int .i64 f, .int .i64 s, .int .i64 d]] : AHeap) = G at g0 xG
  refine aops_call_to (checkEqualizer_c f s d) ?_
  ((repeat (first | refine q1 ?_ | refine q2 ?_ | refine q3 ?_ | refine q4 ?_ | refine q5 ?_ | refine q6 ?_ | refine q7 ?_ | refine q8 ?_ | refine q9 ?_ | refine qa ?_ | refine qb ?_ | refine qc ?_ | refine qd ?_ | refine qe (by decide) ?_ | refine qf ?_ | refine qg ?_ | ((first | apply aops_all | apply adraw_all); (simp (disch := first | exact List.all_nil | omega | (simp only [go_sem]; done) | (simp only [ln, List.length_map]; omega) | (repeat' first | assumption | exact Ext.refl _ | refine Ext.app ?_ _)) only [go_sem]; rfl)))); (try ((first | apply aops_until | apply adraw_until); (simp (disch := first | exact List.all_nil | omega | (simp only [go_sem]; done) | (simp only [ln, List.length_map]; omega) | (repeat' first | assumption | exact Ext.refl _ | refine Ext.app ?_ _)) only [go_sem]; rfl))))
  refine aops_call_to (signalErr_c (hx.ext xG) hxb) ?_
  ((repeat (first | refine q1 ?_ | refine q2 ?_ | refine q3 ?_ | refine q4 ?_ | refine q5 ?_ | refine q6 ?_ | refine q7 ?_ | refine q8 ?_ | refine q9 ?_ | refine qa ?_ | refine qb ?_ | refine qc ?_ | refine qd ?_ | refine qe (by decide) ?_ | refine qf ?_ | refine qg ?_ | ((first | apply aops_all | apply adraw_all); (simp (disch := first | exact List.all_nil | omega | (simp only [go_sem]; done) | (simp only [ln, List.length_map]; omega) | (repeat' first | assumption | exact Ext.refl _ | refine Ext.app ?_ _)) only [go_sem]; rfl)))); (try ((first | apply aops_until | apply adraw_until); (simp (disch := first | exact List.all_nil | omega | (simp only [go_sem]; done) | (simp only [ln, List.length_map]; omega) | (repeat' first | assumption | exact Ext.refl _ | refine Ext.app ?_ _)) only [go_sem]; rfl))))
  refine aops_call_to (first_c (l := [_, _]) (Ints.last (l := [_, _]) 2) (by simp)) ?_
  ((repeat (first | refine q1 ?_ | refine q2 ?_ | refine q3 ?_ | refine q4 ?_ | refine q5 ?_ | refine q6 ?_ | refine q7 ?_ | refine q8 ?_ | refine q9 ?_ | refine qa ?_ | refine qb ?_ | refine qc ?_ | refine qd ?_ | refine qe (by decide) ?_ | refine qf ?_ | refine qg ?_ | ((first | apply aops_all | apply adraw_all); (simp (disch := first | exact List.all_nil | omega | (simp only [go_sem]; done) | (simp only [ln, List.length_map]; omega) | (repeat' first | assumption | exact Ext.refl _ | refine Ext.app ?_ _)) only [go_sem]; rfl)))); (try ((first | apply aops_until | apply adraw_until); (simp (disch := first | exact List.all_nil | omega | (simp only [go_sem]; done) | (simp only [ln, List.length_map]; omega) | (repeat' first | assumption | exact Ext.refl _ | refine Ext.app ?_ _)) only [go_sem]; rfl))))
  have x2 : Ext G (G ++ [AObj.cells true 1 [.int .i64 (eqErrL f s d), .int .i64 (signalErrL x)]]) := (Ext.refl G).app _
  generalize (G ++ [AObj.cells true 1 [.int .i64 (eqErrL f s d), .int .i64 (signalErrL x)]] : AHeap) = G2 at x2
  have g2 := x2.cell g0
  have xH2 := xG.trans x2
  by_cases he : eqErrL f s d = 0
  rotate_left 1
  · have e1 : equalizedL f s d x = ([], eqErrL f s d) := by unfold equalizedL; rw [if_neg he]
    have e2 : firstErr [eqErrL f s d, signalErrL x] = eqErrL f s d := firstErr_e he _
    refine cond_t (by simp [go_sem, e2, dec_t (show eqErrL f s d ≠ 0 from he)]) ?_
    rw [e1, e2]
    ((repeat (first | refine q1 ?_ | refine q2 ?_ | refine q3 ?_ | refine q4 ?_ | refine q5 ?_ | refine q6 ?_ | refine q7 ?_ | refine q8 ?_ | refine q9 ?_ | refine qa ?_ | refine qb ?_ | refine qc ?_ | refine qd ?_ | refine qe (by decide) ?_ | refine qf ?_ | refine qg ?_ | ((first | apply aops_all | apply adraw_all); (simp (disch := first | exact List.all_nil | omega | (simp only [go_sem]; done) | (simp only [ln, List.length_map]; omega) | (repeat' first | assumption | exact Ext.refl _ | refine Ext.app ?_ _)) only [go_sem]; rfl)))); (try ((first | apply aops_until | apply adraw_until); (simp (disch := first | exact List.all_nil | omega | (simp only [go_sem]; done) | (simp only [ln, List.length_map]; omega) | (repeat' first | assumption | exact Ext.refl _ | refine Ext.app ?_ _)) only [go_sem]; rfl))))
    exact fin_2 ⟨_, rfl, xH2, OwnI.nil _ _⟩
  by_cases hs : signalErrL x = 0
  rotate_left 1
  · have e1 : equalizedL f s d x = ([], signalErrL x) := by unfold equalizedL; rw [if_pos he, if_neg hs]
    have e2 : firstErr [eqErrL f s d, signalErrL x] = signalErrL x := by rw [he, firstErr_z, firstErr_e hs]
    refine cond_t (by simp [go_sem, e2, dec_t (show signalErrL x ≠ 0 from hs)]) ?_
    rw [e1, e2]
    ((repeat (first | refine q1 ?_ | refine q2 ?_ | refine q3 ?_ | refine q4 ?_ | refine q5 ?_ | refine q6 ?_ | refine q7 ?_ | refine q8 ?_ | refine q9 ?_ | refine qa ?_ | refine qb ?_ | refine qc ?_ | refine qd ?_ | refine qe (by decide) ?_ | refine qf ?_ | refine qg ?_ | ((first | apply aops_all | apply adraw_all); (simp (disch := first | exact List.all_nil | omega | (simp only [go_sem]; done) | (simp only [ln, List.length_map]; omega) | (repeat' first | assumption | exact Ext.refl _ | refine Ext.app ?_ _)) only [go_sem]; rfl)))); (try ((first | apply aops_until | apply adraw_until); (simp (disch := first | exact List.all_nil | omega | (simp only [go_sem]; done) | (simp only [ln, List.length_map]; omega) | (repeat' first | assumption | exact Ext.refl _ | refine Ext.app ?_ _)) only [go_sem]; rfl))))
    exact fin_2 ⟨_, rfl, xH2, OwnI.nil _ _⟩
  have e1 : equalizedL f s d x = eqRes (eqGo f s d 0 0 x) := by unfold equalizedL; rw [if_pos he, if_pos hs]
  have e2 : firstErr [eqErrL f s d, signalErrL x] = 0 := by rw [he, firstErr_z, hs, firstErr_z, firstErr_nil]
  rw [e1, e2]
  refine cond_f rfl ?_
  obtain ⟨s1, s2⟩ := signalErr_ok hs
  have hx2 := hx.ext xH2
  ((repeat (first | refine q1 ?_ | refine q2 ?_ | refine q3 ?_ | refine q4 ?_ | refine q5 ?_ | refine q6 ?_ | refine q7 ?_ | refine q8 ?_ | refine q9 ?_ | refine qa ?_ | refine qb ?_ | refine qc ?_ | refine qd ?_ | refine qe (by decide) ?_ | refine qf ?_ | refine qg ?_ | ((first | apply aops_all | apply adraw_all); (simp (disch := first | exact List.all_nil | omega | (simp only [go_sem]; done) | (simp only [ln, List.length_map]; omega) | (repeat' first | assumption | exact Ext.refl _ | refine Ext.app ?_ _)) only [go_sem, hx2.len, hx2.idx, hx2.load, n3_at g2, fill_35, box_5]; rfl)))); (try ((first | apply aops_until | apply adraw_until); (simp (disch := first | exact List.all_nil | omega | (simp only [go_sem]; done) | (simp only [ln, List.length_map]; omega) | (repeat' first | assumption | exact Ext.refl _ | refine Ext.app ?_ _)) only [go_sem, hx2.len, hx2.idx, hx2.load, n3_at g2, fill_35, box_5]; rfl))))
  have m3 : (G2 ++ [AObj.cells true 0 [.int .i64 f, .int .i64 s, .int .i64 d, .int .i64 0, .int .i64 0]])[G2.length]? = some (.cells true 0 [.int .i64 f, .int .i64 s, .int .i64 d, .int .i64 0, .int .i64 0]) := at_new
  have x3 : Ext G2 (G2 ++ [AObj.cells true 0 [.int .i64 f, .int .i64 s, .int .i64 d, .int .i64 0, .int .i64 0]]) := (Ext.refl G2).app _
  generalize (G2 ++ [AObj.cells true 0 [.int .i64 f, .int .i64 s, .int .i64 d, .int .i64 0, .int .i64 0]] : AHeap) = G3 at m3 x3
  refine awp_loop_n [false, true, false, false, false, false, false, true, true, false, false, false, false, false, false, false, false, false, false, false, false, false, false, false, true, true, true, false, false, false, false, false, false, false, false, false, false, false, false, false, false, false, false, false, false, false] x.length (fun i e H' => ∃ (a b : Int) (ov : Value) (out : List Int), e = [junk, w, junk, junk, junk, junk, junk, .pointer (some ⟨G2.length, 0, none⟩), ov, junk, junk, junk, junk, junk, junk, junk, junk, junk, junk, junk, junk, junk, junk, junk, w, .int .i64 (x.length : Nat), .int .i64 i, junk, junk, junk, junk, junk, junk, junk, junk, junk, junk, junk, junk, junk, junk, junk, junk, junk, junk, junk] ∧ Ext G2 H' ∧
    H'[G2.length]? = some (.cells true 0 [.int .i64 f, .int .i64 s, .int .i64 d, .int .i64 a, .int .i64 b]) ∧ OwnI G2 H' out ov ∧ (out.length = 0 ∨ idOf ov ≠ G2.length) ∧ (-1000000000000000 ≤ a ∧ a ≤ 1000000000000000) ∧ (-1000000000000000 ≤ b ∧ b ≤ 1000000000000000) ∧ out.length = i ∧
    eqGo f s d 0 0 x = (eqGo f s d a b (x.drop i)).map (fun r => out ++ r)) ?_ ?_
  · exact ⟨0, 0, .slice none 0 0, [], by simp [forget], x3, m3, OwnI.nil _ _, .inl rfl, by omega, by omega, rfl, by simp⟩
  rintro i e H1 hi ⟨a, b, ov, out, rfl, x1, hm, ho, hid, ha, hb, hol, hgo⟩
  have xH := xH2.trans x1
  ((repeat (first | refine q1 ?_ | refine q2 ?_ | refine q3 ?_ | refine q4 ?_ | refine q5 ?_ | refine q6 ?_ | refine q7 ?_ | refine q8 ?_ | refine q9 ?_ | refine qa ?_ | refine qb ?_ | refine qc ?_ | refine qd ?_ | refine qe (by decide) ?_ | refine qf ?_ | refine qg ?_ | ((first | apply aops_all | apply adraw_all); (simp (disch := first | exact List.all_nil | omega | (simp only [go_sem]; done) | (simp only [ln, List.length_map]; omega) | (repeat' first | assumption | exact Ext.refl _ | refine Ext.app ?_ _)) only [go_sem]; rfl)))); (try ((first | apply aops_until | apply adraw_until); (simp (disch := first | exact List.all_nil | omega | (simp only [go_sem]; done) | (simp only [ln, List.length_map]; omega) | (repeat' first | assumption | exact Ext.refl _ | refine Ext.app ?_ _)) only [go_sem]; rfl))))
  refine cond_p rfl (fun hlt => ?_) (fun hge => ?_)
  rotate_left 1
  · rw [drop_end (by omega)] at hgo
    have hgo : eqGo f s d 0 0 x = some out := by rw [hgo]; simp [eqGo]
    ((repeat (first | refine q1 ?_ | refine q2 ?_ | refine q3 ?_ | refine q4 ?_ | refine q5 ?_ | refine q6 ?_ | refine q7 ?_ | refine q8 ?_ | refine q9 ?_ | refine qa ?_ | refine qb ?_ | refine qc ?_ | refine qd ?_ | refine qe (by decide) ?_ | refine qf ?_ | refine qg ?_ | ((first | apply aops_all | apply adraw_all); (simp (disch := first | exact List.all_nil | omega | (simp only [go_sem]; done) | (simp only [ln, List.length_map]; omega) | (repeat' first | assumption | exact Ext.refl _ | refine Ext.app ?_ _)) only [go_sem]; rfl)))); (try ((first | apply aops_until | apply adraw_until); (simp (disch := first | exact List.all_nil | omega | (simp only [go_sem]; done) | (simp only [ln, List.length_map]; omega) | (repeat' first | assumption | exact Ext.refl _ | refine Ext.app ?_ _)) only [go_sem]; rfl))))
    rw [hgo]
    exact fin_2 ⟨ov, rfl, xH, ho.weaken xH2.len⟩
  have hi' : i < x.length := by omega
  have hx1 := hx.ext xH
  rw [drop_getD (d := 0) hi', eqGo_cons] at hgo
  have hab := added_bound he ha hb
  have hxi := s2 i
  ((repeat (first | refine q1 ?_ | refine q2 ?_ | refine q3 ?_ | refine q4 ?_ | refine q5 ?_ | refine q6 ?_ | refine q7 ?_ | refine q8 ?_ | refine q9 ?_ | refine qa ?_ | refine qb ?_ | refine qc ?_ | refine qd ?_ | refine qe (by decide) ?_ | refine qf ?_ | refine qg ?_ | ((first | apply aops_all | apply adraw_all); (simp (disch := first | exact List.all_nil | omega | (simp only [go_sem]; done) | (simp only [ln, List.length_map]; omega) | (repeat' first | assumption | exact Ext.refl _ | refine Ext.app ?_ _)) only [go_sem, hx1.len, hx1.idx, hx1.load]; rfl)))); (try ((first | apply aops_until | apply adraw_until); (simp (disch := first | exact List.all_nil | omega | (simp only [go_sem]; done) | (simp only [ln, List.length_map]; omega) | (repeat' first | assumption | exact Ext.refl _ | refine Ext.app ?_ _)) only [go_sem, hx1.len, hx1.idx, hx1.load]; rfl))))
  refine aops_call_to (added_c hm he ha hb) ?_
  ((repeat (first | refine q1 ?_ | refine q2 ?_ | refine q3 ?_ | refine q4 ?_ | refine q5 ?_ | refine q6 ?_ | refine q7 ?_ | refine q8 ?_ | refine q9 ?_ | refine qa ?_ | refine qb ?_ | refine qc ?_ | refine qd ?_ | refine qe (by decide) ?_ | refine qf ?_ | refine qg ?_ | ((first | apply aops_all | apply adraw_all); (simp (disch := first | exact List.all_nil | omega | (simp only [go_sem]; done) | (simp only [ln, List.length_map]; omega) | (repeat' first | assumption | exact Ext.refl _ | refine Ext.app ?_ _)) only [go_sem]; rfl)))); (try ((first | apply aops_until | apply adraw_until); (simp (disch := first | exact List.all_nil | omega | (simp only [go_sem]; done) | (simp only [ln, List.length_map]; omega) | (repeat' first | assumption | exact Ext.refl _ | refine Ext.app ?_ _)) only [go_sem]; rfl))))
  refine aops_call_to (isSized_c _ _ (by omega)) ?_
  ((repeat (first | refine q1 ?_ | refine q2 ?_ | refine q3 ?_ | refine q4 ?_ | refine q5 ?_ | refine q6 ?_ | refine q7 ?_ | refine q8 ?_ | refine q9 ?_ | refine qa ?_ | refine qb ?_ | refine qc ?_ | refine qd ?_ | refine qe (by decide) ?_ | refine qf ?_ | refine qg ?_ | ((first | apply aops_all | apply adraw_all); (simp (disch := first | exact List.all_nil | omega | (simp only [go_sem]; done) | (simp only [ln, List.length_map]; omega) | (repeat' first | assumption | exact Ext.refl _ | refine Ext.app ?_ _)) only [go_sem]; rfl)))); (try ((first | apply aops_until | apply adraw_until); (simp (disch := first | exact List.all_nil | omega | (simp only [go_sem]; done) | (simp only [ln, List.length_map]; omega) | (repeat' first | assumption | exact Ext.refl _ | refine Ext.app ?_ _)) only [go_sem]; rfl))))
  refine cond_n rfl (fun hne => ?_) (fun hok => ?_)
  · rw [if_neg hne] at hgo
    rw [hgo]
    ((repeat (first | refine q1 ?_ | refine q2 ?_ | refine q3 ?_ | refine q4 ?_ | refine q5 ?_ | refine q6 ?_ | refine q7 ?_ | refine q8 ?_ | refine q9 ?_ | refine qa ?_ | refine qb ?_ | refine qc ?_ | refine qd ?_ | refine qe (by decide) ?_ | refine qf ?_ | refine qg ?_ | ((first | apply aops_all | apply adraw_all); (simp (disch := first | exact List.all_nil | omega | (simp only [go_sem]; done) | (simp only [ln, List.length_map]; omega) | (repeat' first | assumption | exact Ext.refl _ | refine Ext.app ?_ _)) only [go_sem]; rfl)))); (try ((first | apply aops_until | apply adraw_until); (simp (disch := first | exact List.all_nil | omega | (simp only [go_sem]; done) | (simp only [ln, List.length_map]; omega) | (repeat' first | assumption | exact Ext.refl _ | refine Ext.app ?_ _)) only [go_sem]; rfl))))
    exact fin_2 ⟨_, rfl, xH, OwnI.nil _ _⟩
  rw [if_pos hok, map_map_app] at hgo
  ((repeat (first | refine q1 ?_ | refine q2 ?_ | refine q3 ?_ | refine q4 ?_ | refine q5 ?_ | refine q6 ?_ | refine q7 ?_ | refine q8 ?_ | refine q9 ?_ | refine qa ?_ | refine qb ?_ | refine qc ?_ | refine qd ?_ | refine qe (by decide) ?_ | refine qf ?_ | refine qg ?_ | ((first | apply aops_all | apply adraw_all); (simp (disch := first | exact List.all_nil | omega | (simp only [go_sem]; done) | (simp only [ln, List.length_map]; omega) | (repeat' first | assumption | exact Ext.refl _ | refine Ext.app ?_ _)) only [go_sem]; rfl)))); (try ((first | apply aops_until | apply adraw_until); (simp (disch := first | exact List.all_nil | omega | (simp only [go_sem]; done) | (simp only [ln, List.length_map]; omega) | (repeat' first | assumption | exact Ext.refl _ | refine Ext.app ?_ _)) only [go_sem]; rfl))))
  refine aops_call ((push_c (y := x.getD i 0 + addedI f s d a b) hm).mono fun v1 H2 e3 => ?_)
  subst e3
  have hm2 := get_set_self (d := AObj.cells true 0 [.int .i64 f, .int .i64 s, .int .i64 d, .int .i64 (x.getD i 0 + addedI f s d a b), .int .i64 a]) hm
  have x12 : Ext G2 (H1.set G2.length (AObj.cells true 0 [.int .i64 f, .int .i64 s, .int .i64 d, .int .i64 (x.getD i 0 + addedI f s d a b), .int .i64 a])) := x1.set (Nat.le_refl _) _
  have ho2 := ho.set_ne hid (AObj.cells true 0 [.int .i64 f, .int .i64 s, .int .i64 d, .int .i64 (x.getD i 0 + addedI f s d a b), .int .i64 a])
  generalize (H1.set G2.length (AObj.cells true 0 [.int .i64 f, .int .i64 s, .int .i64 d, .int .i64 (x.getD i 0 + addedI f s d a b), .int .i64 a]) : AHeap) = H2 at hm2 x12 ho2
  have hlt2 := (List.getElem?_eq_some_iff.1 hm2).1
  ((repeat (first | refine q1 ?_ | refine q2 ?_ | refine q3 ?_ | refine q4 ?_ | refine q5 ?_ | refine q6 ?_ | refine q7 ?_ | refine q8 ?_ | refine q9 ?_ | refine qa ?_ | refine qb ?_ | refine qc ?_ | refine qd ?_ | refine qe (by decide) ?_ | refine qf ?_ | refine qg ?_ | ((first | apply aops_all | apply adraw_all); (simp (disch := first | exact List.all_nil | omega | (simp only [go_sem]; done) | (simp only [ln, List.length_map]; omega) | (repeat' first | assumption | exact Ext.refl _ | refine Ext.app ?_ _)) only [go_sem, ho2.push (by omega) (x.getD i 0 + addedI f s d a b)]; rfl)))); (try ((first | apply aops_until | apply adraw_until); (simp (disch := first | exact List.all_nil | omega | (simp only [go_sem]; done) | (simp only [ln, List.length_map]; omega) | (repeat' first | assumption | exact Ext.refl _ | refine Ext.app ?_ _)) only [go_sem, ho2.push (by omega) (x.getD i 0 + addedI f s d a b)]; rfl))))
  refine ⟨by omega, x.getD i 0 + addedI f s d a b, a, pushV H2 out.length, out ++ [x.getD i 0 + addedI f s d a b], by simp [forget], ho2.ext x12 _, pushH_at hm2 (ho2.nil_or hid), ho2.pushed x12 _, .inr ?_, hok, ha, by simp; omega, hgo⟩
  show H2.length + 1 ≠ G2.length
  omega

theorem restored1_c : Asks (.func (.func 126) #[] #[]) (fun n => !decide (-1000000000000000 ≤ n ∧ n ≤ 1000000000000000)) := fun n H => by
  show ACall _ _ _ _ _
  (refine a126 ?_; simp only [n126, List.replicate, List.length_cons, List.length_nil, List.cons_append, List.nil_append])
  ((repeat (first | refine q1 ?_ | refine q2 ?_ | refine q3 ?_ | refine q4 ?_ | refine q5 ?_ | refine q6 ?_ | refine q7 ?_ | refine q8 ?_ | refine q9 ?_ | refine qa ?_ | refine qb ?_ | refine qc ?_ | refine qd ?_ | refine qe (by decide) ?_ | refine qf ?_ | refine qg ?_ | ((first | apply aops_all | apply adraw_all); (simp (disch := first | exact List.all_nil | omega | (simp only [go_sem]; done) | (simp only [ln, List.length_map]; omega) | (repeat' first | assumption | exact Ext.refl _ | refine Ext.app ?_ _)) only [go_sem]; rfl)))); (try ((first | apply aops_until | apply adraw_until); (simp (disch := first | exact List.all_nil | omega | (simp only [go_sem]; done) | (simp only [ln, List.length_map]; omega) | (repeat' first | assumption | exact Ext.refl _ | refine Ext.app ?_ _)) only [go_sem]; rfl))))
  refine aops_call_to (isSized_c _ _ (by omega)) ?_
  ((repeat (first | refine q1 ?_ | refine q2 ?_ | refine q3 ?_ | refine q4 ?_ | refine q5 ?_ | refine q6 ?_ | refine q7 ?_ | refine q8 ?_ | refine q9 ?_ | refine qa ?_ | refine qb ?_ | refine qc ?_ | refine qd ?_ | refine qe (by decide) ?_ | refine qf ?_ | refine qg ?_ | ((first | apply aops_all | apply adraw_all); (simp (disch := first | exact List.all_nil | omega | (simp only [go_sem]; done) | (simp only [ln, List.length_map]; omega) | (repeat' first | assumption | exact Ext.refl _ | refine Ext.app ?_ _)) only [go_sem]; rfl)))); (try ((first | apply aops_until | apply adraw_until); (simp (disch := first | exact List.all_nil | omega | (simp only [go_sem]; done) | (simp only [ln, List.length_map]; omega) | (repeat' first | assumption | exact Ext.refl _ | refine Ext.app ?_ _)) only [go_sem]; rfl))))
  exact fin_1 ⟨rfl, rfl⟩
theorem unGo_cons {f s d a b x : Int} {t : List Int} : unGo f s d a b (x :: t) = (x - addedI f s d a b) :: unGo f s d x a t := rfl

set_option maxHeartbeats 1000000 in
theorem restored_c {f s d : Int} {x : List Int} {w : Value} (hx : Ints H x w) (hxb : x.length ≤ 1000000000) :
    ACall Go.Proofs.Tryd.prog 71 [.agg ⟨[.int .i64 f, .int .i64 s, .int .i64 d]⟩, w] H (IntsRes H (restoredL f s d x).1 (restoredL f s d x).2) := by
  refine ACall.intsE ?_
  (refine a71 ?_; simp only [n71, List.replicate, List.length_cons, List.length_nil, List.cons_append, List.nil_append])
  have g0 : (H ++ [AObj.cells true 0 [.int .i64 f, .int .i64 s, .int .i64 d]])[H.length]? = some (.cells true 0 [.int .i64 f, .int .i64 s, .int .i64 d]) := at_new
  have xG : Ext H (H ++ [AObj.cells true 0 [.int .i64 f, .int .i64 s, .int .i64 d]]) := (Ext.refl H).app _
  ((repeat (first | refine q1 ?_ | refine q2 ?_ | refine q3 ?_ | refine q4 ?_ | refine q5 ?_ | refine q6 ?_ | refine q7 ?_ | refine q8 ?_ | refine q9 ?_ | refine qa ?_ | refine qb ?_ | refine qc ?_ | refine qd ?_ | refine qe (by decide) ?_ | refine qf ?_ | refine qg ?_ | ((first | apply aops_all | apply adraw_all); (simp (disch := first | exact List.all_nil | omega | (simp only [go_sem]; done) | (simp only [ln, List.length_map]; omega) | (repeat' first | assumption | exact Ext.refl _ | refine Ext.app ?_ _)) only [go_sem, box_3, n3_at g0]; rfl)))); (try ((first | apply aops_until | apply adraw_until); (simp (disch := first | exact List.all_nil | omega | (simp only [go_sem]; done) | (simp only [ln, List.length_map]; omega) | (repeat' first | assumption | exact Ext.refl _ | refine Ext.app ?_ _)) only [go_sem, box_3, n3_at g0]; rfl))))
  generalize (H ++ [AObj.cells true 0 [.int .i64 f, .int .i64 s, .int .i64 d]] : AHeap) = G at g0 xG
  have hxg := hx.ext xG
  refine aops_call_to (containsFunc_c hxg restored1_c hxb) ?_
  rw [any_not]
  ((repeat (first | refine q1 ?_ | refine q2 ?_ | refine q3 ?_ | refine q4 ?_ | refine q5 ?_ | refine q6 ?_ | refine q7 ?_ | refine q8 ?_ | refine q9 ?_ | refine qa ?_ | refine qb ?_ | refine qc ?_ | refine qd ?_ | refine qe (by decide) ?_ | refine qf ?_ | refine qg ?_ | ((first | apply aops_all | apply adraw_all); (simp (disch := first | exact List.all_nil | omega | (simp only [go_sem]; done) | (simp only [ln, List.length_map]; omega) | (repeat' first | assumption | exact Ext.refl _ | refine Ext.app ?_ _)) only [go_sem, n3_at g0]; rfl)))); (try ((first | apply aops_until | apply adraw_until); (simp (disch := first | exact List.all_nil | omega | (simp only [go_sem]; done) | (simp only [ln, List.length_map]; omega) | (repeat' first | assumption | exact Ext.refl _ | refine Ext.app ?_ _)) only [go_sem, n3_at g0]; rfl))))
  refine aops_call_to (checkEqualizer_c f s d) ?_
  ((repeat (first | refine q1 ?_ | refine q2 ?_ | refine q3 ?_ | refine q4 ?_ | refine q5 ?_ | refine q6 ?_ | refine q7 ?_ | refine q8 ?_ | refine q9 ?_ | refine qa ?_ | refine qb ?_ | refine qc ?_ | refine qd ?_ | refine qe (by decide) ?_ | refine qf ?_ | refine qg ?_ | ((first | apply aops_all | apply adraw_all); (simp (disch := first | exact List.all_nil | omega | (simp only [go_sem]; done) | (simp only [ln, List.length_map]; omega) | (repeat' first | assumption | exact Ext.refl _ | refine Ext.app ?_ _)) only [go_sem, hxg.len, hxg.idx, hxg.load]; rfl)))); (try ((first | apply aops_until | apply adraw_until); (simp (disch := first | exact List.all_nil | omega | (simp only [go_sem]; done) | (simp only [ln, List.length_map]; omega) | (repeat' first | assumption | exact Ext.refl _ | refine Ext.app ?_ _)) only [go_sem, hxg.len, hxg.idx, hxg.load]; rfl))))
  refine aops_call_to (unless_c _ _) ?_
  ((repeat (first | refine q1 ?_ | refine q2 ?_ | refine q3 ?_ | refine q4 ?_ | refine q5 ?_ | refine q6 ?_ | refine q7 ?_ | refine q8 ?_ | refine q9 ?_ | refine qa ?_ | refine qb ?_ | refine qc ?_ | refine qd ?_ | refine qe (by decide) ?_ | refine qf ?_ | refine qg ?_ | ((first | apply aops_all | apply adraw_all); (simp (disch := first | exact List.all_nil | omega | (simp only [go_sem]; done) | (simp only [ln, List.length_map]; omega) | (repeat' first | assumption | exact Ext.refl _ | refine Ext.app ?_ _)) only [go_sem, Bool.not_not]; rfl)))); (try ((first | apply aops_until | apply adraw_until); (simp (disch := first | exact List.all_nil | omega | (simp only [go_sem]; done) | (simp only [ln, List.length_map]; omega) | (repeat' first | assumption | exact Ext.refl _ | refine Ext.app ?_ _)) only [go_sem, Bool.not_not]; rfl))))
  refine aops_call_to (unless_c _ _) ?_
  ((repeat (first | refine q1 ?_ | refine q2 ?_ | refine q3 ?_ | refine q4 ?_ | refine q5 ?_ | refine q6 ?_ | refine q7 ?_ | refine q8 ?_ | refine q9 ?_ | refine qa ?_ | refine qb ?_ | refine qc ?_ | refine qd ?_ | refine qe (by decide) ?_ | refine qf ?_ | refine qg ?_ | ((first | apply aops_all | apply adraw_all); (simp (disch := first | exact List.all_nil | omega | (simp only [go_sem]; done) | (simp only [ln, List.length_map]; omega) | (repeat' first | assumption | exact Ext.refl _ | refine Ext.app ?_ _)) only [go_sem]; rfl)))); (try ((first | apply aops_until | apply adraw_until); (simp (disch := first | exact List.all_nil | omega | (simp only [go_sem]; done) | (simp only [ln, List.length_map]; omega) | (repeat' first | assumption | exact Ext.refl _ | refine Ext.app ?_ _)) only [go_sem]; rfl))))
  refine aops_call_to (first_c (l := [_, _, _]) (Ints.last (l := [_, _, _]) 3) (by simp)) ?_
  have e0 : firstErr [eqErrL f s d, if decide ((x.length : Int) ≤ 400) = true then 0 else 8, if (x.all fun n => decide (-1000000000000000 ≤ n ∧ n ≤ 1000000000000000)) = true then 0 else 2] = (restoredL f s d x).2 := by
    unfold restoredL outErrL
    by_cases h0 : eqErrL f s d = 0
    · by_cases h1 : 400 < x.length
      · have : ¬ (x.length : Int) ≤ 400 := by omega
        simp [firstErr, h0, h1, this]
      · have : (x.length : Int) ≤ 400 := by omega
        cases hq : x.all (fun n => decide (-1000000000000000 ≤ n ∧ n ≤ 1000000000000000)) <;> simp [firstErr, h0, h1, this]
    · simp [firstErr, h0]
  rw [e0]
  ((repeat (first | refine q1 ?_ | refine q2 ?_ | refine q3 ?_ | refine q4 ?_ | refine q5 ?_ | refine q6 ?_ | refine q7 ?_ | refine q8 ?_ | refine q9 ?_ | refine qa ?_ | refine qb ?_ | refine qc ?_ | refine qd ?_ | refine qe (by decide) ?_ | refine qf ?_ | refine qg ?_ | ((first | apply aops_all | apply adraw_all); (simp (disch := first | exact List.all_nil | omega | (simp only [go_sem]; done) | (simp only [ln, List.length_map]; omega) | (repeat' first | assumption | exact Ext.refl _ | refine Ext.app ?_ _)) only [go_sem]; rfl)))); (try ((first | apply aops_until | apply adraw_until); (simp (disch := first | exact List.all_nil | omega | (simp only [go_sem]; done) | (simp only [ln, List.length_map]; omega) | (repeat' first | assumption | exact Ext.refl _ | refine Ext.app ?_ _)) only [go_sem]; rfl))))
  obtain ⟨G2, hG2⟩ : ∃ G2, G2 = G ++ [AObj.cells true 1 [.int .i64 (eqErrL f s d), .int .i64 (if decide ((x.length : Int) ≤ 400) = true then 0 else 8), .int .i64 (if (x.all fun n => decide (-1000000000000000 ≤ n ∧ n ≤ 1000000000000000)) = true then 0 else 2)]] := ⟨_, rfl⟩
  have x2 : Ext G G2 := by rw [hG2]; exact (Ext.refl G).app _
  rw [← hG2]
  clear hG2
  have g2 := x2.cell g0
  have xH2 := xG.trans x2
  refine cond_p rfl (fun hne => ?_) (fun heq => ?_)
  · have e1 : (restoredL f s d x).1 = [] := by
      unfold restoredL at hne ⊢
      by_cases h1 : eqErrL f s d = 0
      · by_cases h2 : outErrL x = 0
        · rw [if_pos h1, if_pos h2] at hne; exact absurd rfl hne
        · rw [if_pos h1, if_neg h2]
      · rw [if_neg h1]
    rw [e1]
    ((repeat (first | refine q1 ?_ | refine q2 ?_ | refine q3 ?_ | refine q4 ?_ | refine q5 ?_ | refine q6 ?_ | refine q7 ?_ | refine q8 ?_ | refine q9 ?_ | refine qa ?_ | refine qb ?_ | refine qc ?_ | refine qd ?_ | refine qe (by decide) ?_ | refine qf ?_ | refine qg ?_ | ((first | apply aops_all | apply adraw_all); (simp (disch := first | exact List.all_nil | omega | (simp only [go_sem]; done) | (simp only [ln, List.length_map]; omega) | (repeat' first | assumption | exact Ext.refl _ | refine Ext.app ?_ _)) only [go_sem]; rfl)))); (try ((first | apply aops_until | apply adraw_until); (simp (disch := first | exact List.all_nil | omega | (simp only [go_sem]; done) | (simp only [ln, List.length_map]; omega) | (repeat' first | assumption | exact Ext.refl _ | refine Ext.app ?_ _)) only [go_sem]; rfl))))
    exact fin_2 ⟨_, rfl, xH2, OwnI.nil _ _⟩
  have hboth : eqErrL f s d = 0 ∧ outErrL x = 0 := by
    have h := Decidable.not_not.1 heq
    unfold restoredL at h
    by_cases h1 : eqErrL f s d = 0
    · by_cases h2 : outErrL x = 0
      · exact ⟨h1, h2⟩
      · rw [if_pos h1, if_neg h2] at h; exact absurd h h2
    · rw [if_neg h1] at h; exact absurd h h1
  obtain ⟨he, hs⟩ := hboth
  have e1 : restoredL f s d x = (unGo f s d 0 0 x, 0) := by unfold restoredL; rw [if_pos he, if_pos hs]
  rw [e1]
  obtain ⟨s1, s2⟩ := outErr_ok hs
  have hx2 := hx.ext xH2
  ((repeat (first | refine q1 ?_ | refine q2 ?_ | refine q3 ?_ | refine q4 ?_ | refine q5 ?_ | refine q6 ?_ | refine q7 ?_ | refine q8 ?_ | refine q9 ?_ | refine qa ?_ | refine qb ?_ | refine qc ?_ | refine qd ?_ | refine qe (by decide) ?_ | refine qf ?_ | refine qg ?_ | ((first | apply aops_all | apply adraw_all); (simp (disch := first | exact List.all_nil | omega | (simp only [go_sem]; done) | (simp only [ln, List.length_map]; omega) | (repeat' first | assumption | exact Ext.refl _ | refine Ext.app ?_ _)) only [go_sem, hx2.len, hx2.idx, hx2.load, n3_at g2, fill_35, box_5]; rfl)))); (try ((first | apply aops_until | apply adraw_until); (simp (disch := first | exact List.all_nil | omega | (simp only [go_sem]; done) | (simp only [ln, List.length_map]; omega) | (repeat' first | assumption | exact Ext.refl _ | refine Ext.app ?_ _)) only [go_sem, hx2.len, hx2.idx, hx2.load, n3_at g2, fill_35, box_5]; rfl))))
  have m3 : (G2 ++ [AObj.cells true 0 [.int .i64 f, .int .i64 s, .int .i64 d, .int .i64 0, .int .i64 0]])[G2.length]? = some (.cells true 0 [.int .i64 f, .int .i64 s, .int .i64 d, .int .i64 0, .int .i64 0]) := at_new
  have x3 : Ext G2 (G2 ++ [AObj.cells true 0 [.int .i64 f, .int .i64 s, .int .i64 d, .int .i64 0, .int .i64 0]]) := (Ext.refl G2).app _
  generalize (G2 ++ [AObj.cells true 0 [.int .i64 f, .int .i64 s, .int .i64 d, .int .i64 0, .int .i64 0]] : AHeap) = G3 at m3 x3
  refine awp_loop_n [false, true, false, false, false, false, false, false, true, true, false, false, false, false, false, false, false, false, false, false, false, false, false, false, false, false, false, false, false, false, false, true, true, true, false, false, false, false, false, false, false, false, false, false, false, false, false, false, false] x.length (fun i e H' => ∃ (a b : Int) (ov : Value) (out : List Int), e = [junk, w, junk, junk, junk, junk, junk, junk, .pointer (some ⟨G2.length, 0, none⟩), ov, junk, junk, junk, junk, junk, junk, junk, junk, junk, junk, junk, junk, junk, junk, junk, junk, junk, junk, junk, junk, junk, w, .int .i64 (x.length : Nat), .int .i64 i, junk, junk, junk, junk, junk, junk, junk, junk, junk, junk, junk, junk, junk, junk, junk] ∧ Ext G2 H' ∧
    H'[G2.length]? = some (.cells true 0 [.int .i64 f, .int .i64 s, .int .i64 d, .int .i64 a, .int .i64 b]) ∧ OwnI G2 H' out ov ∧ (out.length = 0 ∨ idOf ov ≠ G2.length) ∧ (-1000000000000000 ≤ a ∧ a ≤ 1000000000000000) ∧ (-1000000000000000 ≤ b ∧ b ≤ 1000000000000000) ∧ out.length = i ∧
    unGo f s d 0 0 x = out ++ unGo f s d a b (x.drop i)) ?_ ?_
  · exact ⟨0, 0, .slice none 0 0, [], by simp [forget], x3, m3, OwnI.nil _ _, .inl rfl, by omega, by omega, rfl, by simp⟩
  rintro i e H1 hi ⟨a, b, ov, out, rfl, x1, hm, ho, hid, ha, hb, hol, hgo⟩
  have xH := xH2.trans x1
  ((repeat (first | refine q1 ?_ | refine q2 ?_ | refine q3 ?_ | refine q4 ?_ | refine q5 ?_ | refine q6 ?_ | refine q7 ?_ | refine q8 ?_ | refine q9 ?_ | refine qa ?_ | refine qb ?_ | refine qc ?_ | refine qd ?_ | refine qe (by decide) ?_ | refine qf ?_ | refine qg ?_ | ((first | apply aops_all | apply adraw_all); (simp (disch := first | exact List.all_nil | omega | (simp only [go_sem]; done) | (simp only [ln, List.length_map]; omega) | (repeat' first | assumption | exact Ext.refl _ | refine Ext.app ?_ _)) only [go_sem]; rfl)))); (try ((first | apply aops_until | apply adraw_until); (simp (disch := first | exact List.all_nil | omega | (simp only [go_sem]; done) | (simp only [ln, List.length_map]; omega) | (repeat' first | assumption | exact Ext.refl _ | refine Ext.app ?_ _)) only [go_sem]; rfl))))
  refine cond_p rfl (fun hlt => ?_) (fun hge => ?_)
  rotate_left 1
  · rw [drop_end (by omega)] at hgo
    have hgo : unGo f s d 0 0 x = out := by rw [hgo]; simp [unGo]
    ((repeat (first | refine q1 ?_ | refine q2 ?_ | refine q3 ?_ | refine q4 ?_ | refine q5 ?_ | refine q6 ?_ | refine q7 ?_ | refine q8 ?_ | refine q9 ?_ | refine qa ?_ | refine qb ?_ | refine qc ?_ | refine qd ?_ | refine qe (by decide) ?_ | refine qf ?_ | refine qg ?_ | ((first | apply aops_all | apply adraw_all); (simp (disch := first | exact List.all_nil | omega | (simp only [go_sem]; done) | (simp only [ln, List.length_map]; omega) | (repeat' first | assumption | exact Ext.refl _ | refine Ext.app ?_ _)) only [go_sem]; rfl)))); (try ((first | apply aops_until | apply adraw_until); (simp (disch := first | exact List.all_nil | omega | (simp only [go_sem]; done) | (simp only [ln, List.length_map]; omega) | (repeat' first | assumption | exact Ext.refl _ | refine Ext.app ?_ _)) only [go_sem]; rfl))))
    rw [hgo]
    exact fin_2 ⟨ov, rfl, xH, ho.weaken xH2.len⟩
  have hi' : i < x.length := by omega
  have hx1 := hx.ext xH
  rw [drop_getD (d := 0) hi', unGo_cons] at hgo
  have hab := added_bound he ha hb
  have hxi := s2 i
  have hlt1 := (List.getElem?_eq_some_iff.1 hm).1
  ((repeat (first | refine q1 ?_ | refine q2 ?_ | refine q3 ?_ | refine q4 ?_ | refine q5 ?_ | refine q6 ?_ | refine q7 ?_ | refine q8 ?_ | refine q9 ?_ | refine qa ?_ | refine qb ?_ | refine qc ?_ | refine qd ?_ | refine qe (by decide) ?_ | refine qf ?_ | refine qg ?_ | ((first | apply aops_all | apply adraw_all); (simp (disch := first | exact List.all_nil | omega | (simp only [go_sem]; done) | (simp only [ln, List.length_map]; omega) | (repeat' first | assumption | exact Ext.refl _ | refine Ext.app ?_ _)) only [go_sem, hx1.len, hx1.idx, hx1.load]; rfl)))); (try ((first | apply aops_until | apply adraw_until); (simp (disch := first | exact List.all_nil | omega | (simp only [go_sem]; done) | (simp only [ln, List.length_map]; omega) | (repeat' first | assumption | exact Ext.refl _ | refine Ext.app ?_ _)) only [go_sem, hx1.len, hx1.idx, hx1.load]; rfl))))
  refine aops_call_to (added_c hm he ha hb) ?_
  ((repeat (first | refine q1 ?_ | refine q2 ?_ | refine q3 ?_ | refine q4 ?_ | refine q5 ?_ | refine q6 ?_ | refine q7 ?_ | refine q8 ?_ | refine q9 ?_ | refine qa ?_ | refine qb ?_ | refine qc ?_ | refine qd ?_ | refine qe (by decide) ?_ | refine qf ?_ | refine qg ?_ | ((first | apply aops_all | apply adraw_all); (simp (disch := first | exact List.all_nil | omega | (simp only [go_sem]; done) | (simp only [ln, List.length_map]; omega) | (repeat' first | assumption | exact Ext.refl _ | refine Ext.app ?_ _)) only [go_sem, ho.push (by omega) (x.getD i 0 - addedI f s d a b)]; rfl)))); (try ((first | apply aops_until | apply adraw_until); (simp (disch := first | exact List.all_nil | omega | (simp only [go_sem]; done) | (simp only [ln, List.length_map]; omega) | (repeat' first | assumption | exact Ext.refl _ | refine Ext.app ?_ _)) only [go_sem, ho.push (by omega) (x.getD i 0 - addedI f s d a b)]; rfl))))
  have hm1 : (pushH H1 ov out (x.getD i 0 - addedI f s d a b))[G2.length]? = some (.cells true 0 [.int .i64 f, .int .i64 s, .int .i64 d, .int .i64 a, .int .i64 b]) := pushH_at hm (ho.nil_or hid)
  have ho1 := ho.pushed x1 (x.getD i 0 - addedI f s d a b)
  have x11 := ho.ext x1 (x.getD i 0 - addedI f s d a b)
  have eid : idOf (pushV H1 out.length) = H1.length + 1 := rfl
  generalize pushH H1 ov out (x.getD i 0 - addedI f s d a b) = H2 at hm1 ho1 x11
  refine aops_call ((push_c (y := x.getD i 0) hm1).mono fun v1 H3 e3 => ?_)
  subst e3
  ((repeat (first | refine q1 ?_ | refine q2 ?_ | refine q3 ?_ | refine q4 ?_ | refine q5 ?_ | refine q6 ?_ | refine q7 ?_ | refine q8 ?_ | refine q9 ?_ | refine qa ?_ | refine qb ?_ | refine qc ?_ | refine qd ?_ | refine qe (by decide) ?_ | refine qf ?_ | refine qg ?_ | ((first | apply aops_all | apply adraw_all); (simp (disch := first | exact List.all_nil | omega | (simp only [go_sem]; done) | (simp only [ln, List.length_map]; omega) | (repeat' first | assumption | exact Ext.refl _ | refine Ext.app ?_ _)) only [go_sem]; rfl)))); (try ((first | apply aops_until | apply adraw_until); (simp (disch := first | exact List.all_nil | omega | (simp only [go_sem]; done) | (simp only [ln, List.length_map]; omega) | (repeat' first | assumption | exact Ext.refl _ | refine Ext.app ?_ _)) only [go_sem]; rfl))))
  refine ⟨by omega, x.getD i 0, a, pushV H1 out.length, out ++ [x.getD i 0 - addedI f s d a b], by simp [forget], x11.set (Nat.le_refl _) _, get_set_self hm1, ho1.set_ne (.inr (by omega)) _, .inr (by omega), hxi, ha, by simp; omega, by rw [hgo]; simp⟩
end
end Go.Lq


namespace Go.Lq
open Go
open Go.Proofs

theorem signal_out {x : List Int} (h : signalErrL x = 0) : outErrL x = 0 := by
  unfold signalErrL at h
  unfold outErrL
  split at h
  · cases h
  · rename_i h1
    split at h
    · rename_i h2
      rw [if_neg h1, if_pos]
      rw [List.all_eq_true] at h2 ⊢
      intro n hn
      have := h2 n hn
      simp only [decide_eq_true_eq] at this ⊢
      omega
    · cases h
theorem signal_take {x : List Int} (h : signalErrL x = 0) (k : Nat) : signalErrL (x.take k) = 0 := by
  unfold signalErrL at h ⊢
  split at h
  · cases h
  · rename_i h1
    split at h
    · rename_i h2
      rw [if_neg (by rw [List.length_take]; omega), if_pos]
      rw [List.all_eq_true] at h2 ⊢
      intro n hn
      exact h2 n (List.mem_of_mem_take hn)
    · cases h
theorem eqGo_all {f s d : Int} : ∀ {x y : List Int} {a b : Int}, eqGo f s d a b x = some y → ∀ n ∈ y, -1000000000000000 ≤ n ∧ n ≤ 1000000000000000
  | [], y, a, b, h => by cases h; simp
  | x :: t, y, a, b, h => by
    unfold eqGo at h
    split at h
    · rename_i hb
      obtain ⟨y', h1, rfl⟩ := Option.map_eq_some_iff.1 h
      intro n hn
      rcases List.mem_cons.1 hn with rfl | hn
      · exact hb
      · exact eqGo_all h1 n hn
    · cases h
theorem out_all {y : List Int} (hl : y.length ≤ 400) (h : ∀ n ∈ y, -1000000000000000 ≤ n ∧ n ≤ 1000000000000000) : outErrL y = 0 := by
  unfold outErrL
  rw [if_neg (by omega), if_pos]
  rw [List.all_eq_true]
  intro n hn
  exact decide_eq_true (h n hn)
theorem out_bound {y : List Int} (h : outErrL y = 0) : ∀ n ∈ y, -1000000000000000 ≤ n ∧ n ≤ 1000000000000000 := by
  unfold outErrL at h
  split at h
  · cases h
  · split at h
    · rename_i h2
      rw [List.all_eq_true] at h2
      intro n hn
      simpa using h2 n hn
    · cases h
theorem unGo_len {f s d : Int} : ∀ {q : List Int} {a b : Int}, (unGo f s d a b q).length = q.length
  | [], _, _ => rfl
  | c :: q, a, b => by simp [unGo, unGo_len (q := q)]

section
variable {H : AHeap}
theorem bmodW_c (n b : Int) (hb : 0 < b ∧ b ≤ 1000000000) :
    ACall Go.Proofs.Tryd.prog 76 [.int .i64 n, .int .i64 b] H fun v H' => v = .int .i64 (n % b) ∧ H' = H := by
  have e2 : n.tmod b = if 0 ≤ n ∨ b ∣ n then n % b else n % b - b := by
    rw [Int.tmod_eq_emod]
    split <;> omega
  have h1 := Int.emod_nonneg n (show b ≠ 0 by omega)
  have h2 := Int.emod_lt_of_pos n hb.1
  have h3 : -1000000000 ≤ n.tmod b ∧ n.tmod b ≤ 1000000000 := by rw [e2]; split <;> omega
  (refine a76 ?_; simp only [n76, List.replicate, List.length_cons, List.length_nil, List.cons_append, List.nil_append])
  ((repeat (first | refine q1 ?_ | refine q2 ?_ | refine q3 ?_ | refine q4 ?_ | refine q5 ?_ | refine q6 ?_ | refine q7 ?_ | refine q8 ?_ | refine q9 ?_ | refine qa ?_ | refine qb ?_ | refine qc ?_ | refine qd ?_ | refine qe (by decide) ?_ | refine qf ?_ | refine qg ?_ | ((first | apply aops_all | apply adraw_all); (simp (disch := first | exact List.all_nil | omega | (simp only [go_sem]; done) | (simp only [ln, List.length_map]; omega) | (repeat' first | assumption | exact Ext.refl _ | refine Ext.app ?_ _)) only [go_sem]; rfl)))); (try ((first | apply aops_until | apply adraw_until); (simp (disch := first | exact List.all_nil | omega | (simp only [go_sem]; done) | (simp only [ln, List.length_map]; omega) | (repeat' first | assumption | exact Ext.refl _ | refine Ext.app ?_ _)) only [go_sem]; rfl))))
  refine cond_p rfl (fun hneg => ?_) (fun hpos => ?_)
  · ((repeat (first | refine q1 ?_ | refine q2 ?_ | refine q3 ?_ | refine q4 ?_ | refine q5 ?_ | refine q6 ?_ | refine q7 ?_ | refine q8 ?_ | refine q9 ?_ | refine qa ?_ | refine qb ?_ | refine qc ?_ | refine qd ?_ | refine qe (by decide) ?_ | refine qf ?_ | refine qg ?_ | ((first | apply aops_all | apply adraw_all); (simp (disch := first | exact List.all_nil | omega | (simp only [go_sem]; done) | (simp only [ln, List.length_map]; omega) | (repeat' first | assumption | exact Ext.refl _ | refine Ext.app ?_ _)) only [go_sem]; rfl)))); (try ((first | apply aops_until | apply adraw_until); (simp (disch := first | exact List.all_nil | omega | (simp only [go_sem]; done) | (simp only [ln, List.length_map]; omega) | (repeat' first | assumption | exact Ext.refl _ | refine Ext.app ?_ _)) only [go_sem]; rfl))))
    refine fin_1 ⟨?_, rfl⟩
    rw [e2] at hneg ⊢
    split at hneg
    · omega
    · rename_i h
      rw [if_neg h]
      simp
  · ((repeat (first | refine q1 ?_ | refine q2 ?_ | refine q3 ?_ | refine q4 ?_ | refine q5 ?_ | refine q6 ?_ | refine q7 ?_ | refine q8 ?_ | refine q9 ?_ | refine qa ?_ | refine qb ?_ | refine qc ?_ | refine qd ?_ | refine qe (by decide) ?_ | refine qf ?_ | refine qg ?_ | ((first | apply aops_all | apply adraw_all); (simp (disch := first | exact List.all_nil | omega | (simp only [go_sem]; done) | (simp only [ln, List.length_map]; omega) | (repeat' first | assumption | exact Ext.refl _ | refine Ext.app ?_ _)) only [go_sem]; rfl)))); (try ((first | apply aops_until | apply adraw_until); (simp (disch := first | exact List.all_nil | omega | (simp only [go_sem]; done) | (simp only [ln, List.length_map]; omega) | (repeat' first | assumption | exact Ext.refl _ | refine Ext.app ?_ _)) only [go_sem]; rfl))))
    refine fin_1 ⟨?_, rfl⟩
    rw [e2] at hpos ⊢
    split at hpos
    · rename_i h; rw [if_pos h]; rfl
    · omega
end
end Go.Lq

namespace Go.Lq
open Go
open Go.Proofs

/-- An equalizer, handed over. -/
theorem repEqualizerT {H : AHeap} {v : Value} (h : RepA Tryd.prog H 60 v) : ∃ f s d, v = .agg ⟨[.int .i64 f, .int .i64 s, .int .i64 d]⟩ ∧ InI64 f ∧ InI64 s ∧ InI64 d := by
  obtain ⟨l, rfl, hl, hi⟩ := h.recI (d := 5) (n := 3) (.inl ⟨_, Tryd.underlying60⟩) (by kernel_rfl) (by kernel_rfl)
  match l, hl with
  | [f, s, d], _ => exact ⟨f, s, d, rfl, hi f (by simp), hi s (by simp), hi d (by simp)⟩

set_option maxRecDepth 100000 in
set_option maxHeartbeats 4000000 in
theorem law15 {H : AHeap} {avs : List Value} (hx : Ext H0 H) (h : RepAll Tryd.prog H [60, 27, 3] avs) : ACall Tryd.prog 15 avs H fun v _ => v = .bool true := by
  obtain ⟨a, w, u, rfl, h1, h2, h3⟩ := h.three
  obtain ⟨f, s, d, rfl, _, _, _⟩ := repEqualizerT h1
  obtain ⟨x, hX, hxm, _⟩ := h2.ints Tryd.underlying27 Tryd.underlying3 (by kernel_rfl)
  obtain ⟨p, rfl, _⟩ := h3.int Tryd.underlying3
  (refine a15 ?_; simp only [n15, List.replicate, List.length_cons, List.length_nil, List.cons_append, List.nil_append])
  have g0 : (H ++ [AObj.cells true 0 [.int .i64 f, .int .i64 s, .int .i64 d]])[H.length]? = some (.cells true 0 [.int .i64 f, .int .i64 s, .int .i64 d]) := at_new
  have xG : Ext H (H ++ [AObj.cells true 0 [.int .i64 f, .int .i64 s, .int .i64 d]]) := (Ext.refl H).app _
  ((repeat (first | refine q1 ?_ | refine q2 ?_ | refine q3 ?_ | refine q4 ?_ | refine q5 ?_ | refine q6 ?_ | refine q7 ?_ | refine q8 ?_ | refine q9 ?_ | refine qa ?_ | refine qb ?_ | refine qc ?_ | refine qd ?_ | refine qe (by decide) ?_ | refine qf ?_ | refine qg ?_ | ((first | apply aops_all | apply adraw_all); (simp (disch := first | exact List.all_nil | omega | (simp only [go_sem]; done) | (simp only [ln, List.length_map]; omega) | (repeat' first | assumption | exact Ext.refl _ | refine Ext.app ?_ _)) only [go_sem, box_3]; rfl)))); (try ((first | apply aops_until | apply adraw_until); (simp (disch := first | exact List.all_nil | omega | (simp only [go_sem]; done) | (simp only [ln, List.length_map]; omega) | (repeat' first | assumption | exact Ext.refl _ | refine Ext.app ?_ _)) only [go_sem, box_3]; rfl))))
  generalize (H ++ [AObj.cells true 0 [.int .i64 f, .int .i64 s, .int .i64 d]] : AHeap) = G at g0 xG
  have hxg := hX.ext xG
  refine aops_call_to (awake_c (hx.trans xG)) ?_
  ((repeat (first | refine q1 ?_ | refine q2 ?_ | refine q3 ?_ | refine q4 ?_ | refine q5 ?_ | refine q6 ?_ | refine q7 ?_ | refine q8 ?_ | refine q9 ?_ | refine qa ?_ | refine qb ?_ | refine qc ?_ | refine qd ?_ | refine qe (by decide) ?_ | refine qf ?_ | refine qg ?_ | ((first | apply aops_all | apply adraw_all); (simp (disch := first | exact List.all_nil | omega | (simp only [go_sem]; done) | (simp only [ln, List.length_map]; omega) | (repeat' first | assumption | exact Ext.refl _ | refine Ext.app ?_ _)) only [go_sem]; rfl)))); (try ((first | apply aops_until | apply adraw_until); (simp (disch := first | exact List.all_nil | omega | (simp only [go_sem]; done) | (simp only [ln, List.length_map]; omega) | (repeat' first | assumption | exact Ext.refl _ | refine Ext.app ?_ _)) only [go_sem]; rfl))))
  refine cond_f rfl ?_
  by_cases hl : (64 : Int) < x.length
  · ((repeat (first | refine q1 ?_ | refine q2 ?_ | refine q3 ?_ | refine q4 ?_ | refine q5 ?_ | refine q6 ?_ | refine q7 ?_ | refine q8 ?_ | refine q9 ?_ | refine qa ?_ | refine qb ?_ | refine qc ?_ | refine qd ?_ | refine qe (by decide) ?_ | refine qf ?_ | refine qg ?_ | ((first | apply aops_all | apply adraw_all); (simp (disch := first | exact List.all_nil | omega | (simp only [go_sem]; done) | (simp only [ln, List.length_map]; omega) | (repeat' first | assumption | exact Ext.refl _ | refine Ext.app ?_ _)) only [go_sem, hxg.len, hxg.idx, hxg.load, dec_t hl]; rfl)))); (try ((first | apply aops_until | apply adraw_until); (simp (disch := first | exact List.all_nil | omega | (simp only [go_sem]; done) | (simp only [ln, List.length_map]; omega) | (repeat' first | assumption | exact Ext.refl _ | refine Ext.app ?_ _)) only [go_sem, hxg.len, hxg.idx, hxg.load, dec_t hl]; rfl))))
    refine cond_t rfl ?_
    ((repeat (first | refine q1 ?_ | refine q2 ?_ | refine q3 ?_ | refine q4 ?_ | refine q5 ?_ | refine q6 ?_ | refine q7 ?_ | refine q8 ?_ | refine q9 ?_ | refine qa ?_ | refine qb ?_ | refine qc ?_ | refine qd ?_ | refine qe (by decide) ?_ | refine qf ?_ | refine qg ?_ | ((first | apply aops_all | apply adraw_all); (simp (disch := first | exact List.all_nil | omega | (simp only [go_sem]; done) | (simp only [ln, List.length_map]; omega) | (repeat' first | assumption | exact Ext.refl _ | refine Ext.app ?_ _)) only [go_sem]; rfl)))); (try ((first | apply aops_until | apply adraw_until); (simp (disch := first | exact List.all_nil | omega | (simp only [go_sem]; done) | (simp only [ln, List.length_map]; omega) | (repeat' first | assumption | exact Ext.refl _ | refine Ext.app ?_ _)) only [go_sem]; rfl))))
    exact fin_1 rfl
  have hxb : x.length ≤ 1000000000 := by omega
  ((repeat (first | refine q1 ?_ | refine q2 ?_ | refine q3 ?_ | refine q4 ?_ | refine q5 ?_ | refine q6 ?_ | refine q7 ?_ | refine q8 ?_ | refine q9 ?_ | refine qa ?_ | refine qb ?_ | refine qc ?_ | refine qd ?_ | refine qe (by decide) ?_ | refine qf ?_ | refine qg ?_ | ((first | apply aops_all | apply adraw_all); (simp (disch := first | exact List.all_nil | omega | (simp only [go_sem]; done) | (simp only [ln, List.length_map]; omega) | (repeat' first | assumption | exact Ext.refl _ | refine Ext.app ?_ _)) only [go_sem, hxg.len, hxg.idx, hxg.load, dec_f hl, n3_at g0]; rfl)))); (try ((first | apply aops_until | apply adraw_until); (simp (disch := first | exact List.all_nil | omega | (simp only [go_sem]; done) | (simp only [ln, List.length_map]; omega) | (repeat' first | assumption | exact Ext.refl _ | refine Ext.app ?_ _)) only [go_sem, hxg.len, hxg.idx, hxg.load, dec_f hl, n3_at g0]; rfl))))
  refine aops_call_to (refEqErr_c f s d) ?_
  by_cases he : eqErrL f s d = 0
  rotate_left 1
  · ((repeat (first | refine q1 ?_ | refine q2 ?_ | refine q3 ?_ | refine q4 ?_ | refine q5 ?_ | refine q6 ?_ | refine q7 ?_ | refine q8 ?_ | refine q9 ?_ | refine qa ?_ | refine qb ?_ | refine qc ?_ | refine qd ?_ | refine qe (by decide) ?_ | refine qf ?_ | refine qg ?_ | ((first | apply aops_all | apply adraw_all); (simp (disch := first | exact List.all_nil | omega | (simp only [go_sem]; done) | (simp only [ln, List.length_map]; omega) | (repeat' first | assumption | exact Ext.refl _ | refine Ext.app ?_ _)) only [go_sem, dec_f hl, dec_t (show eqErrL f s d ≠ 0 from he)]; rfl)))); (try ((first | apply aops_until | apply adraw_until); (simp (disch := first | exact List.all_nil | omega | (simp only [go_sem]; done) | (simp only [ln, List.length_map]; omega) | (repeat' first | assumption | exact Ext.refl _ | refine Ext.app ?_ _)) only [go_sem, dec_f hl, dec_t (show eqErrL f s d ≠ 0 from he)]; rfl))))
    refine cond_t rfl ?_
    ((repeat (first | refine q1 ?_ | refine q2 ?_ | refine q3 ?_ | refine q4 ?_ | refine q5 ?_ | refine q6 ?_ | refine q7 ?_ | refine q8 ?_ | refine q9 ?_ | refine qa ?_ | refine qb ?_ | refine qc ?_ | refine qd ?_ | refine qe (by decide) ?_ | refine qf ?_ | refine qg ?_ | ((first | apply aops_all | apply adraw_all); (simp (disch := first | exact List.all_nil | omega | (simp only [go_sem]; done) | (simp only [ln, List.length_map]; omega) | (repeat' first | assumption | exact Ext.refl _ | refine Ext.app ?_ _)) only [go_sem]; rfl)))); (try ((first | apply aops_until | apply adraw_until); (simp (disch := first | exact List.all_nil | omega | (simp only [go_sem]; done) | (simp only [ln, List.length_map]; omega) | (repeat' first | assumption | exact Ext.refl _ | refine Ext.app ?_ _)) only [go_sem]; rfl))))
    exact fin_1 rfl
  ((repeat (first | refine q1 ?_ | refine q2 ?_ | refine q3 ?_ | refine q4 ?_ | refine q5 ?_ | refine q6 ?_ | refine q7 ?_ | refine q8 ?_ | refine q9 ?_ | refine qa ?_ | refine qb ?_ | refine qc ?_ | refine qd ?_ | refine qe (by decide) ?_ | refine qf ?_ | refine qg ?_ | ((first | apply aops_all | apply adraw_all); (simp (disch := first | exact List.all_nil | omega | (simp only [go_sem]; done) | (simp only [ln, List.length_map]; omega) | (repeat' first | assumption | exact Ext.refl _ | refine Ext.app ?_ _)) only [go_sem, dec_f hl, he]; rfl)))); (try ((first | apply aops_until | apply adraw_until); (simp (disch := first | exact List.all_nil | omega | (simp only [go_sem]; done) | (simp only [ln, List.length_map]; omega) | (repeat' first | assumption | exact Ext.refl _ | refine Ext.app ?_ _)) only [go_sem, dec_f hl, he]; rfl))))
  refine aops_call_to (refSignalErr_c hxg hxb) ?_
  by_cases hs : signalErrL x = 0
  rotate_left 1
  · ((repeat (first | refine q1 ?_ | refine q2 ?_ | refine q3 ?_ | refine q4 ?_ | refine q5 ?_ | refine q6 ?_ | refine q7 ?_ | refine q8 ?_ | refine q9 ?_ | refine qa ?_ | refine qb ?_ | refine qc ?_ | refine qd ?_ | refine qe (by decide) ?_ | refine qf ?_ | refine qg ?_ | ((first | apply aops_all | apply adraw_all); (simp (disch := first | exact List.all_nil | omega | (simp only [go_sem]; done) | (simp only [ln, List.length_map]; omega) | (repeat' first | assumption | exact Ext.refl _ | refine Ext.app ?_ _)) only [go_sem, dec_f hl, he, dec_t (show signalErrL x ≠ 0 from hs)]; rfl)))); (try ((first | apply aops_until | apply adraw_until); (simp (disch := first | exact List.all_nil | omega | (simp only [go_sem]; done) | (simp only [ln, List.length_map]; omega) | (repeat' first | assumption | exact Ext.refl _ | refine Ext.app ?_ _)) only [go_sem, dec_f hl, he, dec_t (show signalErrL x ≠ 0 from hs)]; rfl))))
    refine cond_t rfl ?_
    ((repeat (first | refine q1 ?_ | refine q2 ?_ | refine q3 ?_ | refine q4 ?_ | refine q5 ?_ | refine q6 ?_ | refine q7 ?_ | refine q8 ?_ | refine q9 ?_ | refine qa ?_ | refine qb ?_ | refine qc ?_ | refine qd ?_ | refine qe (by decide) ?_ | refine qf ?_ | refine qg ?_ | ((first | apply aops_all | apply adraw_all); (simp (disch := first | exact List.all_nil | omega | (simp only [go_sem]; done) | (simp only [ln, List.length_map]; omega) | (repeat' first | assumption | exact Ext.refl _ | refine Ext.app ?_ _)) only [go_sem]; rfl)))); (try ((first | apply aops_until | apply adraw_until); (simp (disch := first | exact List.all_nil | omega | (simp only [go_sem]; done) | (simp only [ln, List.length_map]; omega) | (repeat' first | assumption | exact Ext.refl _ | refine Ext.app ?_ _)) only [go_sem]; rfl))))
    exact fin_1 rfl
  ((repeat (first | refine q1 ?_ | refine q2 ?_ | refine q3 ?_ | refine q4 ?_ | refine q5 ?_ | refine q6 ?_ | refine q7 ?_ | refine q8 ?_ | refine q9 ?_ | refine qa ?_ | refine qb ?_ | refine qc ?_ | refine qd ?_ | refine qe (by decide) ?_ | refine qf ?_ | refine qg ?_ | ((first | apply aops_all | apply adraw_all); (simp (disch := first | exact List.all_nil | omega | (simp only [go_sem]; done) | (simp only [ln, List.length_map]; omega) | (repeat' first | assumption | exact Ext.refl _ | refine Ext.app ?_ _)) only [go_sem, dec_f hl, he, hs]; rfl)))); (try ((first | apply aops_until | apply adraw_until); (simp (disch := first | exact List.all_nil | omega | (simp only [go_sem]; done) | (simp only [ln, List.length_map]; omega) | (repeat' first | assumption | exact Ext.refl _ | refine Ext.app ?_ _)) only [go_sem, dec_f hl, he, hs]; rfl))))
  refine cond_f rfl ?_
  ((repeat (first | refine q1 ?_ | refine q2 ?_ | refine q3 ?_ | refine q4 ?_ | refine q5 ?_ | refine q6 ?_ | refine q7 ?_ | refine q8 ?_ | refine q9 ?_ | refine qa ?_ | refine qb ?_ | refine qc ?_ | refine qd ?_ | refine qe (by decide) ?_ | refine qf ?_ | refine qg ?_ | ((first | apply aops_all | apply adraw_all); (simp (disch := first | exact List.all_nil | omega | (simp only [go_sem]; done) | (simp only [ln, List.length_map]; omega) | (repeat' first | assumption | exact Ext.refl _ | refine Ext.app ?_ _)) only [go_sem, n3_at g0]; rfl)))); (try ((first | apply aops_until | apply adraw_until); (simp (disch := first | exact List.all_nil | omega | (simp only [go_sem]; done) | (simp only [ln, List.length_map]; omega) | (repeat' first | assumption | exact Ext.refl _ | refine Ext.app ?_ _)) only [go_sem, n3_at g0]; rfl))))
  refine adraw_call (copyInts_c hxg hxb) ?_
  have hX1 : Ints (G ++ [.cells true 1 (x.map (.int .i64))]) x (.slice (some ⟨G.length, 0, none⟩) x.length x.length) := Ints.last x.length
  have x1 : Ext G (G ++ [AObj.cells true 1 (x.map (.int .i64))]) := (Ext.refl G).app _
  generalize (G ++ [AObj.cells true 1 (x.map (.int .i64))] : AHeap) = G1 at hX1 x1
  generalize Value.slice (some ⟨G.length, 0, none⟩) x.length x.length = xv at hX1
  ((repeat (first | refine q1 ?_ | refine q2 ?_ | refine q3 ?_ | refine q4 ?_ | refine q5 ?_ | refine q6 ?_ | refine q7 ?_ | refine q8 ?_ | refine q9 ?_ | refine qa ?_ | refine qb ?_ | refine qc ?_ | refine qd ?_ | refine qe (by decide) ?_ | refine qf ?_ | refine qg ?_ | ((first | apply aops_all | apply adraw_all); (simp (disch := first | exact List.all_nil | omega | (simp only [go_sem]; done) | (simp only [ln, List.length_map]; omega) | (repeat' first | assumption | exact Ext.refl _ | refine Ext.app ?_ _)) only [go_sem]; rfl)))); (try ((first | apply aops_until | apply adraw_until); (simp (disch := first | exact List.all_nil | omega | (simp only [go_sem]; done) | (simp only [ln, List.length_map]; omega) | (repeat' first | assumption | exact Ext.refl _ | refine Ext.app ?_ _)) only [go_sem]; rfl))))
  have e1 : restoredL f s d x = (unGo f s d 0 0 x, 0) := by unfold restoredL; rw [if_pos he, if_pos (signal_out hs)]
  have r1 := restored_c (f := f) (s := s) (d := d) hX1 hxb
  rw [e1] at r1
  refine adraw_call r1 ?_
  have hzl : (unGo f s d 0 0 x).length = x.length := unGo_len
  have hzo := eqGo_unGo (f := f) (s := s) (d := d) (a := 0) (b := 0) (out_bound (signal_out hs))
  have hZ : Ints (G1 ++ retN 1 (unGo f s d 0 0 x).length ((unGo f s d 0 0 x).map (.int .i64))) (unGo f s d 0 0 x) (retV G1 (unGo f s d 0 0 x).length) := Ints.ret
  have x2 : Ext G (G1 ++ retN 1 (unGo f s d 0 0 x).length ((unGo f s d 0 0 x).map (.int .i64))) := x1.app _
  dsimp only
  generalize (G1 ++ retN 1 (unGo f s d 0 0 x).length ((unGo f s d 0 0 x).map (.int .i64)) : AHeap) = G2 at hZ x2
  generalize retV G1 (unGo f s d 0 0 x).length = zv at hZ
  generalize unGo f s d 0 0 x = z at hzl hzo hZ
  have hx2 := hxg.ext x2
  have hzb : z.length ≤ 1000000000 := by omega
  have c1 : decide ((z.length : Int) ≠ x.length) = false := decide_eq_false (by rw [hzl]; simp)
  ((repeat (first | refine q1 ?_ | refine q2 ?_ | refine q3 ?_ | refine q4 ?_ | refine q5 ?_ | refine q6 ?_ | refine q7 ?_ | refine q8 ?_ | refine q9 ?_ | refine qa ?_ | refine qb ?_ | refine qc ?_ | refine qd ?_ | refine qe (by decide) ?_ | refine qf ?_ | refine qg ?_ | ((first | apply aops_all | apply adraw_all); (simp (disch := first | exact List.all_nil | omega | (simp only [go_sem]; done) | (simp only [ln, List.length_map]; omega) | (repeat' first | assumption | exact Ext.refl _ | refine Ext.app ?_ _)) only [go_sem, hZ.len, hZ.idx, hZ.load, hx2.len, hx2.idx, hx2.load, c1]; rfl)))); (try ((first | apply aops_until | apply adraw_until); (simp (disch := first | exact List.all_nil | omega | (simp only [go_sem]; done) | (simp only [ln, List.length_map]; omega) | (repeat' first | assumption | exact Ext.refl _ | refine Ext.app ?_ _)) only [go_sem, hZ.len, hZ.idx, hZ.load, hx2.len, hx2.idx, hx2.load, c1]; rfl))))
  refine cond_f rfl ?_
  ((repeat (first | refine q1 ?_ | refine q2 ?_ | refine q3 ?_ | refine q4 ?_ | refine q5 ?_ | refine q6 ?_ | refine q7 ?_ | refine q8 ?_ | refine q9 ?_ | refine qa ?_ | refine qb ?_ | refine qc ?_ | refine qd ?_ | refine qe (by decide) ?_ | refine qf ?_ | refine qg ?_ | ((first | apply aops_all | apply adraw_all); (simp (disch := first | exact List.all_nil | omega | (simp only [go_sem]; done) | (simp only [ln, List.length_map]; omega) | (repeat' first | assumption | exact Ext.refl _ | refine Ext.app ?_ _)) only [go_sem]; rfl)))); (try ((first | apply aops_until | apply adraw_until); (simp (disch := first | exact List.all_nil | omega | (simp only [go_sem]; done) | (simp only [ln, List.length_map]; omega) | (repeat' first | assumption | exact Ext.refl _ | refine Ext.app ?_ _)) only [go_sem]; rfl))))
  refine aops_call_to (refSignalErr_c hZ hzb) ?_
  by_cases hsz : signalErrL z = 0
  · ((repeat (first | refine q1 ?_ | refine q2 ?_ | refine q3 ?_ | refine q4 ?_ | refine q5 ?_ | refine q6 ?_ | refine q7 ?_ | refine q8 ?_ | refine q9 ?_ | refine qa ?_ | refine qb ?_ | refine qc ?_ | refine qd ?_ | refine qe (by decide) ?_ | refine qf ?_ | refine qg ?_ | ((first | apply aops_all | apply adraw_all); (simp (disch := first | exact List.all_nil | omega | (simp only [go_sem]; done) | (simp only [ln, List.length_map]; omega) | (repeat' first | assumption | exact Ext.refl _ | refine Ext.app ?_ _)) only [go_sem, hsz]; rfl)))); (try ((first | apply aops_until | apply adraw_until); (simp (disch := first | exact List.all_nil | omega | (simp only [go_sem]; done) | (simp only [ln, List.length_map]; omega) | (repeat' first | assumption | exact Ext.refl _ | refine Ext.app ?_ _)) only [go_sem, hsz]; rfl))))
    refine cond_t rfl ?_
    ((repeat (first | refine q1 ?_ | refine q2 ?_ | refine q3 ?_ | refine q4 ?_ | refine q5 ?_ | refine q6 ?_ | refine q7 ?_ | refine q8 ?_ | refine q9 ?_ | refine qa ?_ | refine qb ?_ | refine qc ?_ | refine qd ?_ | refine qe (by decide) ?_ | refine qf ?_ | refine qg ?_ | ((first | apply aops_all | apply adraw_all); (simp (disch := first | exact List.all_nil | omega | (simp only [go_sem]; done) | (simp only [ln, List.length_map]; omega) | (repeat' first | assumption | exact Ext.refl _ | refine Ext.app ?_ _)) only [go_sem, n3_at (x2.cell g0)]; rfl)))); (try ((first | apply aops_until | apply adraw_until); (simp (disch := first | exact List.all_nil | omega | (simp only [go_sem]; done) | (simp only [ln, List.length_map]; omega) | (repeat' first | assumption | exact Ext.refl _ | refine Ext.app ?_ _)) only [go_sem, n3_at (x2.cell g0)]; rfl))))
    refine adraw_call (copyInts_c hZ hzb) ?_
    have hZ3 : Ints (G2 ++ [.cells true 1 (z.map (.int .i64))]) z (.slice (some ⟨G2.length, 0, none⟩) z.length z.length) := Ints.last z.length
    have x3 : Ext G2 (G2 ++ [AObj.cells true 1 (z.map (.int .i64))]) := (Ext.refl G2).app _
    generalize (G2 ++ [AObj.cells true 1 (z.map (.int .i64))] : AHeap) = G3 at hZ3 x3
    generalize Value.slice (some ⟨G2.length, 0, none⟩) z.length z.length = zw at hZ3
    ((repeat (first | refine q1 ?_ | refine q2 ?_ | refine q3 ?_ | refine q4 ?_ | refine q5 ?_ | refine q6 ?_ | refine q7 ?_ | refine q8 ?_ | refine q9 ?_ | refine qa ?_ | refine qb ?_ | refine qc ?_ | refine qd ?_ | refine qe (by decide) ?_ | refine qf ?_ | refine qg ?_ | ((first | apply aops_all | apply adraw_all); (simp (disch := first | exact List.all_nil | omega | (simp only [go_sem]; done) | (simp only [ln, List.length_map]; omega) | (repeat' first | assumption | exact Ext.refl _ | refine Ext.app ?_ _)) only [go_sem]; rfl)))); (try ((first | apply aops_until | apply adraw_until); (simp (disch := first | exact List.all_nil | omega | (simp only [go_sem]; done) | (simp only [ln, List.length_map]; omega) | (repeat' first | assumption | exact Ext.refl _ | refine Ext.app ?_ _)) only [go_sem]; rfl))))
    have e2 : equalizedL f s d z = (x, 0) := by unfold equalizedL; rw [if_pos he, if_pos hsz, hzo]; rfl
    have r2 := equalized_c (f := f) (s := s) (d := d) hZ3 hzb
    rw [e2] at r2
    refine adraw_call r2 ?_
    have hW : Ints (G3 ++ retN 1 x.length (x.map (.int .i64))) x (retV G3 x.length) := Ints.ret
    have x4 : Ext G2 (G3 ++ retN 1 x.length (x.map (.int .i64))) := x3.app _
    dsimp only
    generalize (G3 ++ retN 1 x.length (x.map (.int .i64)) : AHeap) = G4 at hW x4
    generalize retV G3 x.length = wv at hW
    ((repeat (first | refine q1 ?_ | refine q2 ?_ | refine q3 ?_ | refine q4 ?_ | refine q5 ?_ | refine q6 ?_ | refine q7 ?_ | refine q8 ?_ | refine q9 ?_ | refine qa ?_ | refine qb ?_ | refine qc ?_ | refine qd ?_ | refine qe (by decide) ?_ | refine qf ?_ | refine qg ?_ | ((first | apply aops_all | apply adraw_all); (simp (disch := first | exact List.all_nil | omega | (simp only [go_sem]; done) | (simp only [ln, List.length_map]; omega) | (repeat' first | assumption | exact Ext.refl _ | refine Ext.app ?_ _)) only [go_sem]; rfl)))); (try ((first | apply aops_until | apply adraw_until); (simp (disch := first | exact List.all_nil | omega | (simp only [go_sem]; done) | (simp only [ln, List.length_map]; omega) | (repeat' first | assumption | exact Ext.refl _ | refine Ext.app ?_ _)) only [go_sem]; rfl))))
    refine aops_call_to (bints_c hW (hx2.ext x4) hxb hxb) ?_
    have t1 : decide (x = x) = true := decide_eq_true rfl
    ((repeat (first | refine q1 ?_ | refine q2 ?_ | refine q3 ?_ | refine q4 ?_ | refine q5 ?_ | refine q6 ?_ | refine q7 ?_ | refine q8 ?_ | refine q9 ?_ | refine qa ?_ | refine qb ?_ | refine qc ?_ | refine qd ?_ | refine qe (by decide) ?_ | refine qf ?_ | refine qg ?_ | ((first | apply aops_all | apply adraw_all); (simp (disch := first | exact List.all_nil | omega | (simp only [go_sem]; done) | (simp only [ln, List.length_map]; omega) | (repeat' first | assumption | exact Ext.refl _ | refine Ext.app ?_ _)) only [go_sem, t1]; rfl)))); (try ((first | apply aops_until | apply adraw_until); (simp (disch := first | exact List.all_nil | omega | (simp only [go_sem]; done) | (simp only [ln, List.length_map]; omega) | (repeat' first | assumption | exact Ext.refl _ | refine Ext.app ?_ _)) only [go_sem, t1]; rfl))))
    refine cond_f rfl ?_
    have x5 := x2.trans x4
    have g5 := x5.cell g0
    have hx5 := hxg.ext x5
    ((repeat (first | refine q1 ?_ | refine q2 ?_ | refine q3 ?_ | refine q4 ?_ | refine q5 ?_ | refine q6 ?_ | refine q7 ?_ | refine q8 ?_ | refine q9 ?_ | refine qa ?_ | refine qb ?_ | refine qc ?_ | refine qd ?_ | refine qe (by decide) ?_ | refine qf ?_ | refine qg ?_ | ((first | apply aops_all | apply adraw_all); (simp (disch := first | exact List.all_nil | omega | (simp only [go_sem]; done) | (simp only [ln, List.length_map]; omega) | (repeat' first | assumption | exact Ext.refl _ | refine Ext.app ?_ _)) only [go_sem, n3_at g5]; rfl)))); (try ((first | apply aops_until | apply adraw_until); (simp (disch := first | exact List.all_nil | omega | (simp only [go_sem]; done) | (simp only [ln, List.length_map]; omega) | (repeat' first | assumption | exact Ext.refl _ | refine Ext.app ?_ _)) only [go_sem, n3_at g5]; rfl))))
    refine adraw_call (copyInts_c hx5 hxb) ?_
    have hX6 : Ints (G4 ++ [.cells true 1 (x.map (.int .i64))]) x (.slice (some ⟨G4.length, 0, none⟩) x.length x.length) := Ints.last x.length
    have x6 : Ext G4 (G4 ++ [AObj.cells true 1 (x.map (.int .i64))]) := (Ext.refl G4).app _
    generalize (G4 ++ [AObj.cells true 1 (x.map (.int .i64))] : AHeap) = G6 at hX6 x6
    generalize Value.slice (some ⟨G4.length, 0, none⟩) x.length x.length = xw at hX6
    ((repeat (first | refine q1 ?_ | refine q2 ?_ | refine q3 ?_ | refine q4 ?_ | refine q5 ?_ | refine q6 ?_ | refine q7 ?_ | refine q8 ?_ | refine q9 ?_ | refine qa ?_ | refine qb ?_ | refine qc ?_ | refine qd ?_ | refine qe (by decide) ?_ | refine qf ?_ | refine qg ?_ | ((first | apply aops_all | apply adraw_all); (simp (disch := first | exact List.all_nil | omega | (simp only [go_sem]; done) | (simp only [ln, List.length_map]; omega) | (repeat' first | assumption | exact Ext.refl _ | refine Ext.app ?_ _)) only [go_sem]; rfl)))); (try ((first | apply aops_until | apply adraw_until); (simp (disch := first | exact List.all_nil | omega | (simp only [go_sem]; done) | (simp only [ln, List.length_map]; omega) | (repeat' first | assumption | exact Ext.refl _ | refine Ext.app ?_ _)) only [go_sem]; rfl))))
    have r6 := equalized_c (f := f) (s := s) (d := d) hX6 hxb
    cases hgo : eqGo f s d 0 0 x with
    | none =>
      have e6 : equalizedL f s d x = ([], 23) := by unfold equalizedL; rw [if_pos he, if_pos hs, hgo]; rfl
      rw [e6] at r6
      refine adraw_call r6 ?_
      have hY : Ints (G6 ++ retN 1 ([] : List Int).length (([] : List Int).map (.int .i64))) [] (retV G6 ([] : List Int).length) := Ints.ret
      dsimp only
      generalize (G6 ++ retN 1 ([] : List Int).length (([] : List Int).map (.int .i64)) : AHeap) = G7 at hY
      generalize retV G6 ([] : List Int).length = yv at hY
      have z0 : decide (((([] : List Int).length : Nat) : Int) = 0) = true := rfl
      ((repeat (first | refine q1 ?_ | refine q2 ?_ | refine q3 ?_ | refine q4 ?_ | refine q5 ?_ | refine q6 ?_ | refine q7 ?_ | refine q8 ?_ | refine q9 ?_ | refine qa ?_ | refine qb ?_ | refine qc ?_ | refine qd ?_ | refine qe (by decide) ?_ | refine qf ?_ | refine qg ?_ | ((first | apply aops_all | apply adraw_all); (simp (disch := first | exact List.all_nil | omega | (simp only [go_sem]; done) | (simp only [ln, List.length_map]; omega) | (repeat' first | assumption | exact Ext.refl _ | refine Ext.app ?_ _)) only [go_sem]; rfl)))); (try ((first | apply aops_until | apply adraw_until); (simp (disch := first | exact List.all_nil | omega | (simp only [go_sem]; done) | (simp only [ln, List.length_map]; omega) | (repeat' first | assumption | exact Ext.refl _ | refine Ext.app ?_ _)) only [go_sem]; rfl))))
      refine cond_t rfl ?_
      ((repeat (first | refine q1 ?_ | refine q2 ?_ | refine q3 ?_ | refine q4 ?_ | refine q5 ?_ | refine q6 ?_ | refine q7 ?_ | refine q8 ?_ | refine q9 ?_ | refine qa ?_ | refine qb ?_ | refine qc ?_ | refine qd ?_ | refine qe (by decide) ?_ | refine qf ?_ | refine qg ?_ | ((first | apply aops_all | apply adraw_all); (simp (disch := first | exact List.all_nil | omega | (simp only [go_sem]; done) | (simp only [ln, List.length_map]; omega) | (repeat' first | assumption | exact Ext.refl _ | refine Ext.app ?_ _)) only [go_sem, hY.len, hY.idx, hY.load, z0]; rfl)))); (try ((first | apply aops_until | apply adraw_until); (simp (disch := first | exact List.all_nil | omega | (simp only [go_sem]; done) | (simp only [ln, List.length_map]; omega) | (repeat' first | assumption | exact Ext.refl _ | refine Ext.app ?_ _)) only [go_sem, hY.len, hY.idx, hY.load, z0]; rfl))))
      exact fin_1 rfl
    | some y =>
      have hyl := eqGo_len hgo
      have hyo := out_all (by omega) (eqGo_all hgo)
      have hyu := unGo_eqGo hgo
      have e6 : equalizedL f s d x = (y, 0) := by unfold equalizedL; rw [if_pos he, if_pos hs, hgo]; rfl
      rw [e6] at r6
      refine adraw_call r6 ?_
      have hY : Ints (G6 ++ retN 1 y.length (y.map (.int .i64))) y (retV G6 y.length) := Ints.ret
      have x7 : Ext G4 (G6 ++ retN 1 y.length (y.map (.int .i64))) := x6.app _
      dsimp only
      generalize (G6 ++ retN 1 y.length (y.map (.int .i64)) : AHeap) = G7 at hY x7
      generalize retV G6 y.length = yv at hY
      have hyb : y.length ≤ 1000000000 := by omega
      ((repeat (first | refine q1 ?_ | refine q2 ?_ | refine q3 ?_ | refine q4 ?_ | refine q5 ?_ | refine q6 ?_ | refine q7 ?_ | refine q8 ?_ | refine q9 ?_ | refine qa ?_ | refine qb ?_ | refine qc ?_ | refine qd ?_ | refine qe (by decide) ?_ | refine qf ?_ | refine qg ?_ | ((first | apply aops_all | apply adraw_all); (simp (disch := first | exact List.all_nil | omega | (simp only [go_sem]; done) | (simp only [ln, List.length_map]; omega) | (repeat' first | assumption | exact Ext.refl _ | refine Ext.app ?_ _)) only [go_sem]; rfl)))); (try ((first | apply aops_until | apply adraw_until); (simp (disch := first | exact List.all_nil | omega | (simp only [go_sem]; done) | (simp only [ln, List.length_map]; omega) | (repeat' first | assumption | exact Ext.refl _ | refine Ext.app ?_ _)) only [go_sem]; rfl))))
      refine cond_f rfl ?_
      ((repeat (first | refine q1 ?_ | refine q2 ?_ | refine q3 ?_ | refine q4 ?_ | refine q5 ?_ | refine q6 ?_ | refine q7 ?_ | refine q8 ?_ | refine q9 ?_ | refine qa ?_ | refine qb ?_ | refine qc ?_ | refine qd ?_ | refine qe (by decide) ?_ | refine qf ?_ | refine qg ?_ | ((first | apply aops_all | apply adraw_all); (simp (disch := first | exact List.all_nil | omega | (simp only [go_sem]; done) | (simp only [ln, List.length_map]; omega) | (repeat' first | assumption | exact Ext.refl _ | refine Ext.app ?_ _)) only [go_sem, n3_at (x7.cell g5)]; rfl)))); (try ((first | apply aops_until | apply adraw_until); (simp (disch := first | exact List.all_nil | omega | (simp only [go_sem]; done) | (simp only [ln, List.length_map]; omega) | (repeat' first | assumption | exact Ext.refl _ | refine Ext.app ?_ _)) only [go_sem, n3_at (x7.cell g5)]; rfl))))
      refine adraw_call (copyInts_c hY hyb) ?_
      have hY8 : Ints (G7 ++ [.cells true 1 (y.map (.int .i64))]) y (.slice (some ⟨G7.length, 0, none⟩) y.length y.length) := Ints.last y.length
      have x8 : Ext G7 (G7 ++ [AObj.cells true 1 (y.map (.int .i64))]) := (Ext.refl G7).app _
      generalize (G7 ++ [AObj.cells true 1 (y.map (.int .i64))] : AHeap) = G8 at hY8 x8
      generalize Value.slice (some ⟨G7.length, 0, none⟩) y.length y.length = yw at hY8
      ((repeat (first | refine q1 ?_ | refine q2 ?_ | refine q3 ?_ | refine q4 ?_ | refine q5 ?_ | refine q6 ?_ | refine q7 ?_ | refine q8 ?_ | refine q9 ?_ | refine qa ?_ | refine qb ?_ | refine qc ?_ | refine qd ?_ | refine qe (by decide) ?_ | refine qf ?_ | refine qg ?_ | ((first | apply aops_all | apply adraw_all); (simp (disch := first | exact List.all_nil | omega | (simp only [go_sem]; done) | (simp only [ln, List.length_map]; omega) | (repeat' first | assumption | exact Ext.refl _ | refine Ext.app ?_ _)) only [go_sem]; rfl)))); (try ((first | apply aops_until | apply adraw_until); (simp (disch := first | exact List.all_nil | omega | (simp only [go_sem]; done) | (simp only [ln, List.length_map]; omega) | (repeat' first | assumption | exact Ext.refl _ | refine Ext.app ?_ _)) only [go_sem]; rfl))))
      have e8 : restoredL f s d y = (x, 0) := by unfold restoredL; rw [if_pos he, if_pos hyo, hyu]
      have r8 := restored_c (f := f) (s := s) (d := d) hY8 hyb
      rw [e8] at r8
      refine adraw_call r8 ?_
      have hB : Ints (G8 ++ retN 1 x.length (x.map (.int .i64))) x (retV G8 x.length) := Ints.ret
      have x9 : Ext G7 (G8 ++ retN 1 x.length (x.map (.int .i64))) := x8.app _
      dsimp only
      generalize (G8 ++ retN 1 x.length (x.map (.int .i64)) : AHeap) = G9 at hB x9
      generalize retV G8 x.length = bv at hB
      have x79 := x7.trans x9
      have hx9 := hx5.ext x79
      have hy9 := hY.ext x9
      ((repeat (first | refine q1 ?_ | refine q2 ?_ | refine q3 ?_ | refine q4 ?_ | refine q5 ?_ | refine q6 ?_ | refine q7 ?_ | refine q8 ?_ | refine q9 ?_ | refine qa ?_ | refine qb ?_ | refine qc ?_ | refine qd ?_ | refine qe (by decide) ?_ | refine qf ?_ | refine qg ?_ | ((first | apply aops_all | apply adraw_all); (simp (disch := first | exact List.all_nil | omega | (simp only [go_sem]; done) | (simp only [ln, List.length_map]; omega) | (repeat' first | assumption | exact Ext.refl _ | refine Ext.app ?_ _)) only [go_sem, hx9.len, hx9.idx, hx9.load]; rfl)))); (try ((first | apply aops_until | apply adraw_until); (simp (disch := first | exact List.all_nil | omega | (simp only [go_sem]; done) | (simp only [ln, List.length_map]; omega) | (repeat' first | assumption | exact Ext.refl _ | refine Ext.app ?_ _)) only [go_sem, hx9.len, hx9.idx, hx9.load]; rfl))))
      refine aops_call_to (bmodW_c p ((x.length : Int) + 1) (by omega)) ?_
      have k0 := Int.emod_nonneg p (show (x.length : Int) + 1 ≠ 0 by omega)
      have k1 := Int.emod_lt_of_pos p (show (0 : Int) < (x.length : Int) + 1 by omega)
      generalize p % ((x.length : Int) + 1) = k at k0 k1
      have kx : k.toNat ≤ x.length := by omega
      have ky : k.toNat ≤ y.length := by omega
      have hkt := signal_take hs k.toNat
      have hke := eqGo_take k.toNat hgo
      have htl : (x.take k.toNat).length ≤ 1000000000 := by rw [List.length_take]; omega
      have hul : (y.take k.toNat).length ≤ 1000000000 := by rw [List.length_take]; omega
      have hxt := Ints.upto hx9 kx
      have hyt := Ints.upto hy9 ky
      ((repeat (first | refine q1 ?_ | refine q2 ?_ | refine q3 ?_ | refine q4 ?_ | refine q5 ?_ | refine q6 ?_ | refine q7 ?_ | refine q8 ?_ | refine q9 ?_ | refine qa ?_ | refine qb ?_ | refine qc ?_ | refine qd ?_ | refine qe (by decide) ?_ | refine qf ?_ | refine qg ?_ | ((first | apply aops_all | apply adraw_all); (simp (disch := first | exact List.all_nil | omega | (simp only [go_sem]; done) | (simp only [ln, List.length_map]; omega) | (repeat' first | assumption | exact Ext.refl _ | refine Ext.app ?_ _)) only [go_sem, n3_at (x79.cell g5), Sl.to hx9 k0 (show k ≤ (x.length : Nat) by omega)]; rfl)))); (try ((first | apply aops_until | apply adraw_until); (simp (disch := first | exact List.all_nil | omega | (simp only [go_sem]; done) | (simp only [ln, List.length_map]; omega) | (repeat' first | assumption | exact Ext.refl _ | refine Ext.app ?_ _)) only [go_sem, n3_at (x79.cell g5), Sl.to hx9 k0 (show k ≤ (x.length : Nat) by omega)]; rfl))))
      refine adraw_call (copyInts_c hxt htl) ?_
      generalize x.take k.toNat = xt at htl hke hkt hxt
      have hXt : Ints (G9 ++ [.cells true 1 (xt.map (.int .i64))]) xt (.slice (some ⟨G9.length, 0, none⟩) xt.length xt.length) := Ints.last xt.length
      have xa : Ext G9 (G9 ++ [AObj.cells true 1 (xt.map (.int .i64))]) := (Ext.refl G9).app _
      generalize (G9 ++ [AObj.cells true 1 (xt.map (.int .i64))] : AHeap) = Ga at hXt xa
      generalize Value.slice (some ⟨G9.length, 0, none⟩) xt.length xt.length = xu at hXt
      ((repeat (first | refine q1 ?_ | refine q2 ?_ | refine q3 ?_ | refine q4 ?_ | refine q5 ?_ | refine q6 ?_ | refine q7 ?_ | refine q8 ?_ | refine q9 ?_ | refine qa ?_ | refine qb ?_ | refine qc ?_ | refine qd ?_ | refine qe (by decide) ?_ | refine qf ?_ | refine qg ?_ | ((first | apply aops_all | apply adraw_all); (simp (disch := first | exact List.all_nil | omega | (simp only [go_sem]; done) | (simp only [ln, List.length_map]; omega) | (repeat' first | assumption | exact Ext.refl _ | refine Ext.app ?_ _)) only [go_sem]; rfl)))); (try ((first | apply aops_until | apply adraw_until); (simp (disch := first | exact List.all_nil | omega | (simp only [go_sem]; done) | (simp only [ln, List.length_map]; omega) | (repeat' first | assumption | exact Ext.refl _ | refine Ext.app ?_ _)) only [go_sem]; rfl))))
      have ea : equalizedL f s d xt = (y.take k.toNat, 0) := by unfold equalizedL; rw [if_pos he, if_pos hkt, hke]; rfl
      have ra := equalized_c (f := f) (s := s) (d := d) hXt htl
      rw [ea] at ra
      refine adraw_call ra ?_
      have hC : Ints (Ga ++ retN 1 (y.take k.toNat).length ((y.take k.toNat).map (.int .i64))) (y.take k.toNat) (retV Ga (y.take k.toNat).length) := Ints.ret
      have xb : Ext G9 (Ga ++ retN 1 (y.take k.toNat).length ((y.take k.toNat).map (.int .i64))) := xa.app _
      dsimp only
      generalize (Ga ++ retN 1 (y.take k.toNat).length ((y.take k.toNat).map (.int .i64)) : AHeap) = Gb at hC xb
      generalize retV Ga (y.take k.toNat).length = cv at hC
      have hxB := hx9.ext xb
      have hyB := hy9.ext xb
      have hBB := hB.ext xb
      have hyT := Ints.upto hyB ky
      have t1 : decide (x = x) = true := decide_eq_true rfl
      have t2 : decide ((y.length : Int) = x.length) = true := decide_eq_true (by rw [hyl])
      ((repeat (first | refine q1 ?_ | refine q2 ?_ | refine q3 ?_ | refine q4 ?_ | refine q5 ?_ | refine q6 ?_ | refine q7 ?_ | refine q8 ?_ | refine q9 ?_ | refine qa ?_ | refine qb ?_ | refine qc ?_ | refine qd ?_ | refine qe (by decide) ?_ | refine qf ?_ | refine qg ?_ | ((first | apply aops_all | apply adraw_all); (simp (disch := first | exact List.all_nil | omega | (simp only [go_sem]; done) | (simp only [ln, List.length_map]; omega) | (repeat' first | assumption | exact Ext.refl _ | refine Ext.app ?_ _)) only [go_sem]; rfl)))); (try ((first | apply aops_until | apply adraw_until); (simp (disch := first | exact List.all_nil | omega | (simp only [go_sem]; done) | (simp only [ln, List.length_map]; omega) | (repeat' first | assumption | exact Ext.refl _ | refine Ext.app ?_ _)) only [go_sem]; rfl))))
      refine aops_call_to (bints_c hBB hxB hxb hxb) ?_
      ((repeat (first | refine q1 ?_ | refine q2 ?_ | refine q3 ?_ | refine q4 ?_ | refine q5 ?_ | refine q6 ?_ | refine q7 ?_ | refine q8 ?_ | refine q9 ?_ | refine qa ?_ | refine qb ?_ | refine qc ?_ | refine qd ?_ | refine qe (by decide) ?_ | refine qf ?_ | refine qg ?_ | ((first | apply aops_all | apply adraw_all); (simp (disch := first | exact List.all_nil | omega | (simp only [go_sem]; done) | (simp only [ln, List.length_map]; omega) | (repeat' first | assumption | exact Ext.refl _ | refine Ext.app ?_ _)) only [go_sem, hxB.len, hxB.idx, hxB.load, hyB.len, hyB.idx, hyB.load, t1, t2, Sl.to hyB k0 (show k ≤ (y.length : Nat) by omega)]; rfl)))); (try ((first | apply aops_until | apply adraw_until); (simp (disch := first | exact List.all_nil | omega | (simp only [go_sem]; done) | (simp only [ln, List.length_map]; omega) | (repeat' first | assumption | exact Ext.refl _ | refine Ext.app ?_ _)) only [go_sem, hxB.len, hxB.idx, hxB.load, hyB.len, hyB.idx, hyB.load, t1, t2, Sl.to hyB k0 (show k ≤ (y.length : Nat) by omega)]; rfl))))
      refine aops_call_to (bints_c hC hyT hul hul) ?_
      have t3 : decide (y.take k.toNat = y.take k.toNat) = true := decide_eq_true rfl
      ((repeat (first | refine q1 ?_ | refine q2 ?_ | refine q3 ?_ | refine q4 ?_ | refine q5 ?_ | refine q6 ?_ | refine q7 ?_ | refine q8 ?_ | refine q9 ?_ | refine qa ?_ | refine qb ?_ | refine qc ?_ | refine qd ?_ | refine qe (by decide) ?_ | refine qf ?_ | refine qg ?_ | ((first | apply aops_all | apply adraw_all); (simp (disch := first | exact List.all_nil | omega | (simp only [go_sem]; done) | (simp only [ln, List.length_map]; omega) | (repeat' first | assumption | exact Ext.refl _ | refine Ext.app ?_ _)) only [go_sem, t1, t2, t3]; rfl)))); (try ((first | apply aops_until | apply adraw_until); (simp (disch := first | exact List.all_nil | omega | (simp only [go_sem]; done) | (simp only [ln, List.length_map]; omega) | (repeat' first | assumption | exact Ext.refl _ | refine Ext.app ?_ _)) only [go_sem, t1, t2, t3]; rfl))))
      exact fin_1 rfl
  · ((repeat (first | refine q1 ?_ | refine q2 ?_ | refine q3 ?_ | refine q4 ?_ | refine q5 ?_ | refine q6 ?_ | refine q7 ?_ | refine q8 ?_ | refine q9 ?_ | refine qa ?_ | refine qb ?_ | refine qc ?_ | refine qd ?_ | refine qe (by decide) ?_ | refine qf ?_ | refine qg ?_ | ((first | apply aops_all | apply adraw_all); (simp (disch := first | exact List.all_nil | omega | (simp only [go_sem]; done) | (simp only [ln, List.length_map]; omega) | (repeat' first | assumption | exact Ext.refl _ | refine Ext.app ?_ _)) only [go_sem, dec_f hsz]; rfl)))); (try ((first | apply aops_until | apply adraw_until); (simp (disch := first | exact List.all_nil | omega | (simp only [go_sem]; done) | (simp only [ln, List.length_map]; omega) | (repeat' first | assumption | exact Ext.refl _ | refine Ext.app ?_ _)) only [go_sem, dec_f hsz]; rfl))))
    refine cond_f rfl ?_
    have x5 := x2
    have g5 := x5.cell g0
    have hx5 := hxg.ext x5
    ((repeat (first | refine q1 ?_ | refine q2 ?_ | refine q3 ?_ | refine q4 ?_ | refine q5 ?_ | refine q6 ?_ | refine q7 ?_ | refine q8 ?_ | refine q9 ?_ | refine qa ?_ | refine qb ?_ | refine qc ?_ | refine qd ?_ | refine qe (by decide) ?_ | refine qf ?_ | refine qg ?_ | ((first | apply aops_all | apply adraw_all); (simp (disch := first | exact List.all_nil | omega | (simp only [go_sem]; done) | (simp only [ln, List.length_map]; omega) | (repeat' first | assumption | exact Ext.refl _ | refine Ext.app ?_ _)) only [go_sem, n3_at g5]; rfl)))); (try ((first | apply aops_until | apply adraw_until); (simp (disch := first | exact List.all_nil | omega | (simp only [go_sem]; done) | (simp only [ln, List.length_map]; omega) | (repeat' first | assumption | exact Ext.refl _ | refine Ext.app ?_ _)) only [go_sem, n3_at g5]; rfl))))
    refine adraw_call (copyInts_c hx5 hxb) ?_
    have hX6 : Ints (G2 ++ [.cells true 1 (x.map (.int .i64))]) x (.slice (some ⟨G2.length, 0, none⟩) x.length x.length) := Ints.last x.length
    have x6 : Ext G2 (G2 ++ [AObj.cells true 1 (x.map (.int .i64))]) := (Ext.refl G2).app _
    generalize (G2 ++ [AObj.cells true 1 (x.map (.int .i64))] : AHeap) = G6 at hX6 x6
    generalize Value.slice (some ⟨G2.length, 0, none⟩) x.length x.length = xw at hX6
    ((repeat (first | refine q1 ?_ | refine q2 ?_ | refine q3 ?_ | refine q4 ?_ | refine q5 ?_ | refine q6 ?_ | refine q7 ?_ | refine q8 ?_ | refine q9 ?_ | refine qa ?_ | refine qb ?_ | refine qc ?_ | refine qd ?_ | refine qe (by decide) ?_ | refine qf ?_ | refine qg ?_ | ((first | apply aops_all | apply adraw_all); (simp (disch := first | exact List.all_nil | omega | (simp only [go_sem]; done) | (simp only [ln, List.length_map]; omega) | (repeat' first | assumption | exact Ext.refl _ | refine Ext.app ?_ _)) only [go_sem]; rfl)))); (try ((first | apply aops_until | apply adraw_until); (simp (disch := first | exact List.all_nil | omega | (simp only [go_sem]; done) | (simp only [ln, List.length_map]; omega) | (repeat' first | assumption | exact Ext.refl _ | refine Ext.app ?_ _)) only [go_sem]; rfl))))
    have r6 := equalized_c (f := f) (s := s) (d := d) hX6 hxb
    cases hgo : eqGo f s d 0 0 x with
    | none =>
      have e6 : equalizedL f s d x = ([], 23) := by unfold equalizedL; rw [if_pos he, if_pos hs, hgo]; rfl
      rw [e6] at r6
      refine adraw_call r6 ?_
      have hY : Ints (G6 ++ retN 1 ([] : List Int).length (([] : List Int).map (.int .i64))) [] (retV G6 ([] : List Int).length) := Ints.ret
      dsimp only
      generalize (G6 ++ retN 1 ([] : List Int).length (([] : List Int).map (.int .i64)) : AHeap) = G7 at hY
      generalize retV G6 ([] : List Int).length = yv at hY
      have z0 : decide (((([] : List Int).length : Nat) : Int) = 0) = true := rfl
      ((repeat (first | refine q1 ?_ | refine q2 ?_ | refine q3 ?_ | refine q4 ?_ | refine q5 ?_ | refine q6 ?_ | refine q7 ?_ | refine q8 ?_ | refine q9 ?_ | refine qa ?_ | refine qb ?_ | refine qc ?_ | refine qd ?_ | refine qe (by decide) ?_ | refine qf ?_ | refine qg ?_ | ((first | apply aops_all | apply adraw_all); (simp (disch := first | exact List.all_nil | omega | (simp only [go_sem]; done) | (simp only [ln, List.length_map]; omega) | (repeat' first | assumption | exact Ext.refl _ | refine Ext.app ?_ _)) only [go_sem]; rfl)))); (try ((first | apply aops_until | apply adraw_until); (simp (disch := first | exact List.all_nil | omega | (simp only [go_sem]; done) | (simp only [ln, List.length_map]; omega) | (repeat' first | assumption | exact Ext.refl _ | refine Ext.app ?_ _)) only [go_sem]; rfl))))
      refine cond_t rfl ?_
      ((repeat (first | refine q1 ?_ | refine q2 ?_ | refine q3 ?_ | refine q4 ?_ | refine q5 ?_ | refine q6 ?_ | refine q7 ?_ | refine q8 ?_ | refine q9 ?_ | refine qa ?_ | refine qb ?_ | refine qc ?_ | refine qd ?_ | refine qe (by decide) ?_ | refine qf ?_ | refine qg ?_ | ((first | apply aops_all | apply adraw_all); (simp (disch := first | exact List.all_nil | omega | (simp only [go_sem]; done) | (simp only [ln, List.length_map]; omega) | (repeat' first | assumption | exact Ext.refl _ | refine Ext.app ?_ _)) only [go_sem, hY.len, hY.idx, hY.load, z0]; rfl)))); (try ((first | apply aops_until | apply adraw_until); (simp (disch := first | exact List.all_nil | omega | (simp only [go_sem]; done) | (simp only [ln, List.length_map]; omega) | (repeat' first | assumption | exact Ext.refl _ | refine Ext.app ?_ _)) only [go_sem, hY.len, hY.idx, hY.load, z0]; rfl))))
      exact fin_1 rfl
    | some y =>
      have hyl := eqGo_len hgo
      have hyo := out_all (by omega) (eqGo_all hgo)
      have hyu := unGo_eqGo hgo
      have e6 : equalizedL f s d x = (y, 0) := by unfold equalizedL; rw [if_pos he, if_pos hs, hgo]; rfl
      rw [e6] at r6
      refine adraw_call r6 ?_
      have hY : Ints (G6 ++ retN 1 y.length (y.map (.int .i64))) y (retV G6 y.length) := Ints.ret
      have x7 : Ext G2 (G6 ++ retN 1 y.length (y.map (.int .i64))) := x6.app _
      dsimp only
      generalize (G6 ++ retN 1 y.length (y.map (.int .i64)) : AHeap) = G7 at hY x7
      generalize retV G6 y.length = yv at hY
      have hyb : y.length ≤ 1000000000 := by omega
      ((repeat (first | refine q1 ?_ | refine q2 ?_ | refine q3 ?_ | refine q4 ?_ | refine q5 ?_ | refine q6 ?_ | refine q7 ?_ | refine q8 ?_ | refine q9 ?_ | refine qa ?_ | refine qb ?_ | refine qc ?_ | refine qd ?_ | refine qe (by decide) ?_ | refine qf ?_ | refine qg ?_ | ((first | apply aops_all | apply adraw_all); (simp (disch := first | exact List.all_nil | omega | (simp only [go_sem]; done) | (simp only [ln, List.length_map]; omega) | (repeat' first | assumption | exact Ext.refl _ | refine Ext.app ?_ _)) only [go_sem]; rfl)))); (try ((first | apply aops_until | apply adraw_until); (simp (disch := first | exact List.all_nil | omega | (simp only [go_sem]; done) | (simp only [ln, List.length_map]; omega) | (repeat' first | assumption | exact Ext.refl _ | refine Ext.app ?_ _)) only [go_sem]; rfl))))
      refine cond_f rfl ?_
      ((repeat (first | refine q1 ?_ | refine q2 ?_ | refine q3 ?_ | refine q4 ?_ | refine q5 ?_ | refine q6 ?_ | refine q7 ?_ | refine q8 ?_ | refine q9 ?_ | refine qa ?_ | refine qb ?_ | refine qc ?_ | refine qd ?_ | refine qe (by decide) ?_ | refine qf ?_ | refine qg ?_ | ((first | apply aops_all | apply adraw_all); (simp (disch := first | exact List.all_nil | omega | (simp only [go_sem]; done) | (simp only [ln, List.length_map]; omega) | (repeat' first | assumption | exact Ext.refl _ | refine Ext.app ?_ _)) only [go_sem, n3_at (x7.cell g5)]; rfl)))); (try ((first | apply aops_until | apply adraw_until); (simp (disch := first | exact List.all_nil | omega | (simp only [go_sem]; done) | (simp only [ln, List.length_map]; omega) | (repeat' first | assumption | exact Ext.refl _ | refine Ext.app ?_ _)) only [go_sem, n3_at (x7.cell g5)]; rfl))))
      refine adraw_call (copyInts_c hY hyb) ?_
      have hY8 : Ints (G7 ++ [.cells true 1 (y.map (.int .i64))]) y (.slice (some ⟨G7.length, 0, none⟩) y.length y.length) := Ints.last y.length
      have x8 : Ext G7 (G7 ++ [AObj.cells true 1 (y.map (.int .i64))]) := (Ext.refl G7).app _
      generalize (G7 ++ [AObj.cells true 1 (y.map (.int .i64))] : AHeap) = G8 at hY8 x8
      generalize Value.slice (some ⟨G7.length, 0, none⟩) y.length y.length = yw at hY8
      ((repeat (first | refine q1 ?_ | refine q2 ?_ | refine q3 ?_ | refine q4 ?_ | refine q5 ?_ | refine q6 ?_ | refine q7 ?_ | refine q8 ?_ | refine q9 ?_ | refine qa ?_ | refine qb ?_ | refine qc ?_ | refine qd ?_ | refine qe (by decide) ?_ | refine qf ?_ | refine qg ?_ | ((first | apply aops_all | apply adraw_all); (simp (disch := first | exact List.all_nil | omega | (simp only [go_sem]; done) | (simp only [ln, List.length_map]; omega) | (repeat' first | assumption | exact Ext.refl _ | refine Ext.app ?_ _)) only [go_sem]; rfl)))); (try ((first | apply aops_until | apply adraw_until); (simp (disch := first | exact List.all_nil | omega | (simp only [go_sem]; done) | (simp only [ln, List.length_map]; omega) | (repeat' first | assumption | exact Ext.refl _ | refine Ext.app ?_ _)) only [go_sem]; rfl))))
      have e8 : restoredL f s d y = (x, 0) := by unfold restoredL; rw [if_pos he, if_pos hyo, hyu]
      have r8 := restored_c (f := f) (s := s) (d := d) hY8 hyb
      rw [e8] at r8
      refine adraw_call r8 ?_
      have hB : Ints (G8 ++ retN 1 x.length (x.map (.int .i64))) x (retV G8 x.length) := Ints.ret
      have x9 : Ext G7 (G8 ++ retN 1 x.length (x.map (.int .i64))) := x8.app _
      dsimp only
      generalize (G8 ++ retN 1 x.length (x.map (.int .i64)) : AHeap) = G9 at hB x9
      generalize retV G8 x.length = bv at hB
      have x79 := x7.trans x9
      have hx9 := hx5.ext x79
      have hy9 := hY.ext x9
      ((repeat (first | refine q1 ?_ | refine q2 ?_ | refine q3 ?_ | refine q4 ?_ | refine q5 ?_ | refine q6 ?_ | refine q7 ?_ | refine q8 ?_ | refine q9 ?_ | refine qa ?_ | refine qb ?_ | refine qc ?_ | refine qd ?_ | refine qe (by decide) ?_ | refine qf ?_ | refine qg ?_ | ((first | apply aops_all | apply adraw_all); (simp (disch := first | exact List.all_nil | omega | (simp only [go_sem]; done) | (simp only [ln, List.length_map]; omega) | (repeat' first | assumption | exact Ext.refl _ | refine Ext.app ?_ _)) only [go_sem, hx9.len, hx9.idx, hx9.load]; rfl)))); (try ((first | apply aops_until | apply adraw_until); (simp (disch := first | exact List.all_nil | omega | (simp only [go_sem]; done) | (simp only [ln, List.length_map]; omega) | (repeat' first | assumption | exact Ext.refl _ | refine Ext.app ?_ _)) only [go_sem, hx9.len, hx9.idx, hx9.load]; rfl))))
      refine aops_call_to (bmodW_c p ((x.length : Int) + 1) (by omega)) ?_
      have k0 := Int.emod_nonneg p (show (x.length : Int) + 1 ≠ 0 by omega)
      have k1 := Int.emod_lt_of_pos p (show (0 : Int) < (x.length : Int) + 1 by omega)
      generalize p % ((x.length : Int) + 1) = k at k0 k1
      have kx : k.toNat ≤ x.length := by omega
      have ky : k.toNat ≤ y.length := by omega
      have hkt := signal_take hs k.toNat
      have hke := eqGo_take k.toNat hgo
      have htl : (x.take k.toNat).length ≤ 1000000000 := by rw [List.length_take]; omega
      have hul : (y.take k.toNat).length ≤ 1000000000 := by rw [List.length_take]; omega
      have hxt := Ints.upto hx9 kx
      have hyt := Ints.upto hy9 ky
      ((repeat (first | refine q1 ?_ | refine q2 ?_ | refine q3 ?_ | refine q4 ?_ | refine q5 ?_ | refine q6 ?_ | refine q7 ?_ | refine q8 ?_ | refine q9 ?_ | refine qa ?_ | refine qb ?_ | refine qc ?_ | refine qd ?_ | refine qe (by decide) ?_ | refine qf ?_ | refine qg ?_ | ((first | apply aops_all | apply adraw_all); (simp (disch := first | exact List.all_nil | omega | (simp only [go_sem]; done) | (simp only [ln, List.length_map]; omega) | (repeat' first | assumption | exact Ext.refl _ | refine Ext.app ?_ _)) only [go_sem, n3_at (x79.cell g5), Sl.to hx9 k0 (show k ≤ (x.length : Nat) by omega)]; rfl)))); (try ((first | apply aops_until | apply adraw_until); (simp (disch := first | exact List.all_nil | omega | (simp only [go_sem]; done) | (simp only [ln, List.length_map]; omega) | (repeat' first | assumption | exact Ext.refl _ | refine Ext.app ?_ _)) only [go_sem, n3_at (x79.cell g5), Sl.to hx9 k0 (show k ≤ (x.length : Nat) by omega)]; rfl))))
      refine adraw_call (copyInts_c hxt htl) ?_
      generalize x.take k.toNat = xt at htl hke hkt hxt
      have hXt : Ints (G9 ++ [.cells true 1 (xt.map (.int .i64))]) xt (.slice (some ⟨G9.length, 0, none⟩) xt.length xt.length) := Ints.last xt.length
      have xa : Ext G9 (G9 ++ [AObj.cells true 1 (xt.map (.int .i64))]) := (Ext.refl G9).app _
      generalize (G9 ++ [AObj.cells true 1 (xt.map (.int .i64))] : AHeap) = Ga at hXt xa
      generalize Value.slice (some ⟨G9.length, 0, none⟩) xt.length xt.length = xu at hXt
      ((repeat (first | refine q1 ?_ | refine q2 ?_ | refine q3 ?_ | refine q4 ?_ | refine q5 ?_ | refine q6 ?_ | refine q7 ?_ | refine q8 ?_ | refine q9 ?_ | refine qa ?_ | refine qb ?_ | refine qc ?_ | refine qd ?_ | refine qe (by decide) ?_ | refine qf ?_ | refine qg ?_ | ((first | apply aops_all | apply adraw_all); (simp (disch := first | exact List.all_nil | omega | (simp only [go_sem]; done) | (simp only [ln, List.length_map]; omega) | (repeat' first | assumption | exact Ext.refl _ | refine Ext.app ?_ _)) only [go_sem]; rfl)))); (try ((first | apply aops_until | apply adraw_until); (simp (disch := first | exact List.all_nil | omega | (simp only [go_sem]; done) | (simp only [ln, List.length_map]; omega) | (repeat' first | assumption | exact Ext.refl _ | refine Ext.app ?_ _)) only [go_sem]; rfl))))
      have ea : equalizedL f s d xt = (y.take k.toNat, 0) := by unfold equalizedL; rw [if_pos he, if_pos hkt, hke]; rfl
      have ra := equalized_c (f := f) (s := s) (d := d) hXt htl
      rw [ea] at ra
      refine adraw_call ra ?_
      have hC : Ints (Ga ++ retN 1 (y.take k.toNat).length ((y.take k.toNat).map (.int .i64))) (y.take k.toNat) (retV Ga (y.take k.toNat).length) := Ints.ret
      have xb : Ext G9 (Ga ++ retN 1 (y.take k.toNat).length ((y.take k.toNat).map (.int .i64))) := xa.app _
      dsimp only
      generalize (Ga ++ retN 1 (y.take k.toNat).length ((y.take k.toNat).map (.int .i64)) : AHeap) = Gb at hC xb
      generalize retV Ga (y.take k.toNat).length = cv at hC
      have hxB := hx9.ext xb
      have hyB := hy9.ext xb
      have hBB := hB.ext xb
      have hyT := Ints.upto hyB ky
      have t1 : decide (x = x) = true := decide_eq_true rfl
      have t2 : decide ((y.length : Int) = x.length) = true := decide_eq_true (by rw [hyl])
      ((repeat (first | refine q1 ?_ | refine q2 ?_ | refine q3 ?_ | refine q4 ?_ | refine q5 ?_ | refine q6 ?_ | refine q7 ?_ | refine q8 ?_ | refine q9 ?_ | refine qa ?_ | refine qb ?_ | refine qc ?_ | refine qd ?_ | refine qe (by decide) ?_ | refine qf ?_ | refine qg ?_ | ((first | apply aops_all | apply adraw_all); (simp (disch := first | exact List.all_nil | omega | (simp only [go_sem]; done) | (simp only [ln, List.length_map]; omega) | (repeat' first | assumption | exact Ext.refl _ | refine Ext.app ?_ _)) only [go_sem]; rfl)))); (try ((first | apply aops_until | apply adraw_until); (simp (disch := first | exact List.all_nil | omega | (simp only [go_sem]; done) | (simp only [ln, List.length_map]; omega) | (repeat' first | assumption | exact Ext.refl _ | refine Ext.app ?_ _)) only [go_sem]; rfl))))
      refine aops_call_to (bints_c hBB hxB hxb hxb) ?_
      ((repeat (first | refine q1 ?_ | refine q2 ?_ | refine q3 ?_ | refine q4 ?_ | refine q5 ?_ | refine q6 ?_ | refine q7 ?_ | refine q8 ?_ | refine q9 ?_ | refine qa ?_ | refine qb ?_ | refine qc ?_ | refine qd ?_ | refine qe (by decide) ?_ | refine qf ?_ | refine qg ?_ | ((first | apply aops_all | apply adraw_all); (simp (disch := first | exact List.all_nil | omega | (simp only [go_sem]; done) | (simp only [ln, List.length_map]; omega) | (repeat' first | assumption | exact Ext.refl _ | refine Ext.app ?_ _)) only [go_sem, hxB.len, hxB.idx, hxB.load, hyB.len, hyB.idx, hyB.load, t1, t2, Sl.to hyB k0 (show k ≤ (y.length : Nat) by omega)]; rfl)))); (try ((first | apply aops_until | apply adraw_until); (simp (disch := first | exact List.all_nil | omega | (simp only [go_sem]; done) | (simp only [ln, List.length_map]; omega) | (repeat' first | assumption | exact Ext.refl _ | refine Ext.app ?_ _)) only [go_sem, hxB.len, hxB.idx, hxB.load, hyB.len, hyB.idx, hyB.load, t1, t2, Sl.to hyB k0 (show k ≤ (y.length : Nat) by omega)]; rfl))))
      refine aops_call_to (bints_c hC hyT hul hul) ?_
      have t3 : decide (y.take k.toNat = y.take k.toNat) = true := decide_eq_true rfl
      ((repeat (first | refine q1 ?_ | refine q2 ?_ | refine q3 ?_ | refine q4 ?_ | refine q5 ?_ | refine q6 ?_ | refine q7 ?_ | refine q8 ?_ | refine q9 ?_ | refine qa ?_ | refine qb ?_ | refine qc ?_ | refine qd ?_ | refine qe (by decide) ?_ | refine qf ?_ | refine qg ?_ | ((first | apply aops_all | apply adraw_all); (simp (disch := first | exact List.all_nil | omega | (simp only [go_sem]; done) | (simp only [ln, List.length_map]; omega) | (repeat' first | assumption | exact Ext.refl _ | refine Ext.app ?_ _)) only [go_sem, t1, t2, t3]; rfl)))); (try ((first | apply aops_until | apply adraw_until); (simp (disch := first | exact List.all_nil | omega | (simp only [go_sem]; done) | (simp only [ln, List.length_map]; omega) | (repeat' first | assumption | exact Ext.refl _ | refine Ext.app ?_ _)) only [go_sem, t1, t2, t3]; rfl))))
      exact fin_1 rfl
end Go.Lq

namespace Go.Lq
open Go Go.ChangeShapes Go.WideShapes Go.ChangeAt Go.RowKit
open Go.Proofs

set_option maxRecDepth 100000 in
theorem lifted15 (os : Os) (started : os.Started) (X : Type) (enc : TypeId × Value → X) :
    ReturnsInHanded {} Tryd.checked os 15 .any (fun w args => (YtlcfgealkjomnaaDoor.Rows.resampleTakenBackSpec.pre enc Tryd.prog Tryd.f15 [] false w args ∧ laidMetH Tryd.prog laidAll w) ∧ sizedMet enc Tryd.prog Tryd.f15 (OpenSpec.ofChange YtlcfgealkjomnaaDoor.Rows.resampleTakenBackSpec) false w args)
      (YtlcfgealkjomnaaDoor.Rows.resampleTakenBackSpec.post enc Tryd.prog Tryd.f15 false true false false) := by
  refine returnsInHanded_of_change_shaped (C := Tryd.checked) (X := fun w _ => laidMetH Tryd.prog laidAll w) (fun _ _ _ hh h => h.of_heap hh) own_knob started (by kernel_rfl) Tryd.func15
    (ChangeSpec.witness_shaped (enc := enc) (C := Tryd.checked) (os := os) (X := fun w _ => laidMetH Tryd.prog laidAll w) false (World.doorLaid Tryd.prog 400 os) #[.agg #[.int .i64 0, .int .i64 0, .int .i64 0], .slice none 0 0, .int .i64 0] 12 rfl (door_shaped os _) (by kernel_rfl) (by kernel_rfl) (by kernel_rfl) (door_met os _)) ?_
  intro W base args ds gs before hsh hval hW hL
  have hWw := hW
  obtain ⟨p, q, hA, _⟩ := hW
  refine (calls_of_law (d := 20) (of_laid hL hsh) globs glob_at hA (fun j t v h1 h2 => hval j t v (by simpa using h1) (by simpa using h2)) (by kernel_rfl) fun H avs hx h => ?_).mono fun e W' ⟨he, hB⟩ => ?_
  · exact law15 hx (by rw [show Tryd.f15.params = #[60, 27, 3] from Tryd.params15] at h; exact h)
  · subst he
    exact ⟨_, rfl, law_post (bt := 4) laid_out rfl Tryd.underlying4 (by kernel_rfl) (by kernel_rfl) hWw (fun ds hd => by
      rw [show Tryd.f15.params = #[60, 27, 3] from Tryd.params15] at hd
      match ds, hd with
      | [a, b, c], _ => rfl) hB⟩

theorem unf15 : Tryd.prog.unfollowed 15 = true := by kernel_rfl
theorem rec15 : Tryd.prog.recurses 15 = true := by kernel_rfl
theorem named15 : Tryd.prog.varsNamed 15 = YtlcfgealkjomnaaDoor.Rows.resampleTakenBackRow.named := by kernel_rfl
theorem facts15 : joinedFacts Tryd.prog 15 Tryd.f15 YtlcfgealkjomnaaDoor.Rows.resampleTakenBackSpec YtlcfgealkjomnaaDoor.Rows.resampleTakenBackRow = true := by
  unfold joinedFacts
  rw [may_enter, stops_heard, maps_rowed, laid_out, lifts_final, make_is, unf15, rec15, named15]
  kernel_rfl
theorem holds15 : YtlcfgealkjomnaaDoor.Rows.ResampleTakenBackSaid :=
  OpenClaim.holds_of_wide 15 Tryd.f15 rfl rfl rfl rfl rfl rfl rfl ⟨rfl, rfl, rfl, rfl, rfl⟩ rfl rfl rfl rfl rfl (by kernel_rfl) Tryd.func15 facts15
    (of_decide_eq_true (by kernel_rfl)) (by unfold Func.isWrapper; first | (rw [if_pos (by decide +kernel)]; kernel_rfl) | (rw [if_neg (by decide +kernel)]; exact ⟨rfl, rfl⟩))
    (fun os started H enc _ => lifted15 os started H enc)
end Go.Lq
namespace Go.Proofs.YtlcfgealkjomnaaDoor
open Go Go.Lq
theorem resampleTakenBack_proved : Rows.ResampleTakenBackCardSaid :=
  Claim7.holds_tied_plain_at .later [] [.funcs] true (true, "9403e86e1dc287bd0cb4ee71274230f6f4c5733d4f08721e5e779bfd75daaf91") false
    holds15 (fun _ h => by cases h) (by kernel_rfl) (fun _ h => by cases h) resampleTakenBack_row_tie rfl ⟨rfl, rfl⟩ main_is rfl
    (fun f fn hf hfn => by
      obtain rfl : f = 15 := Option.some.inj ((show Tryd.prog.funcNamed "lacquer/lacquerlaw04.ResampleTakenBack" = some 15 by kernel_rfl).symm.trans hf) |>.symm
      obtain rfl : fn = Tryd.f15 := (Option.some.inj (Tryd.func15.symm.trans hfn)).symm
      exact ⟨looks0, fun j t ht => by
        rw [Tryd.params15] at ht
        have hm : t ∈ [60, 27, 3] := by simpa using Array.mem_of_getElem? ht
        have hall : ([60, 27, 3].all fun u => !Tryd.prog.wantsStandIn u) = true := by kernel_rfl
        exact (show Tryd.prog.wantsStandIn t = false by simpa using List.all_eq_true.1 hall t hm)⟩)
    (by kernel_rfl)
end Go.Proofs.YtlcfgealkjomnaaDoor
