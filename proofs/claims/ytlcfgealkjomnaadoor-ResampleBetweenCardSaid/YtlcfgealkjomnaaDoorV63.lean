/- Towards ResampleBetween of seat YtlcfgealkjomnaaDoor: it returns true for every input. Made out of the proof's own texts, merged. -/
import Derived.Test.YtlcfgealkjomnaaDoorV62
set_option linter.unusedSimpArgs false
set_option linter.unnecessarySimpa false
set_option linter.unusedVariables false
set_option maxRecDepth 100000
namespace Go.Lq
open Go
open Go.Proofs

theorem Ints.atom {H : AHeap} {l : List Int} {v : Value} (h : Ints H l v) : isAtom v = true := by
  rcases h.2 with ⟨rfl, _⟩ | ⟨id, off, c, rfl, _⟩ <;> rfl
theorem n2_at {G : AHeap} {id : Nat} {a b : Value} (h : G[id]? = some (.cells true 0 [a, b])) : loadNR 2 (.pointer (some ⟨id, 0, none⟩)) G = some (.agg ⟨[a, b]⟩, G) := loadN_at h (by simp)
theorem any_not (l : List Int) (p : Int → Bool) : (l.any fun n => !p n) = !l.all p := by rw [← List.not_all_eq_any_not]
theorem fill2v {x y a : Value} {b : Int} (ha : isAtom a = true) : fillA [x, y] [(0, 1, a), (1, 1, .int .i64 b)] = some [a, .int .i64 b] := by
  have e : a.cells = ⟨[a]⟩ := by cases a <;> first | rfl | cases ha
  have h1 : fillA [x, y] [(0, 1, a), (1, 1, .int .i64 b)] = fillA [a, y] [(1, 1, .int .i64 b)] := by
    conv => lhs; unfold fillA
    rw [e, if_pos ⟨rfl, by simp, by simp [ha]⟩]
    rfl
  rw [h1, fillA_int (by simp)]
  rfl

section
variable {H : AHeap}
theorem rfloor_c (n b : Int) (hb : 0 < b ∧ b ≤ 1000000000000) (hn : -4000000000000000000 ≤ n ∧ n ≤ 4000000000000000000) :
    ACall Go.Proofs.Tryd.prog 91 [.int .i64 n, .int .i64 b] H fun v H' => v = .int .i64 (n / b) ∧ H' = H := by
  have hq := ediv_bound (n := n) (b := b) (m := 4000000000000000000) hb.1 ⟨by omega, by omega⟩
  have f := floor_neg (n := n) hb.1
  (refine a91 ?_; simp only [n91, List.replicate, List.length_cons, List.length_nil, List.cons_append, List.nil_append]; first | refine q1 ?_ | refine q2 ?_ | refine q6 ?_ | refine q7 ?_ | refine qh rfl ?_ | skip)
  ((repeat (first | refine ya (by (with_reducible constructor) <;> first | rfl | decide) ?_ | apply yb | refine yc rfl ?_ | ((first | apply yd | apply ye); simp (disch := first | exact List.all_nil | omega | (simp only [go_sem]; done) | (simp only [ln, List.length_map]; omega) | (repeat' first | assumption | exact Ext.refl _ | refine Ext.app ?_ _)) only [go_sem]; with_reducible rfl))))
  refine cond_p rfl (fun hneg => ?_) (fun hpos => ?_)
  · have e : (b - 1 - n).tdiv b = (b - 1 - n) / b := Int.tdiv_eq_ediv_of_nonneg (by omega)
    ((repeat (first | refine ya (by (with_reducible constructor) <;> first | rfl | decide) ?_ | apply yb | refine yc rfl ?_ | ((first | apply yd | apply ye); simp (disch := first | exact List.all_nil | omega | (simp only [go_sem]; done) | (simp only [ln, List.length_map]; omega) | (repeat' first | assumption | exact Ext.refl _ | refine Ext.app ?_ _)) only [go_sem, e]; with_reducible rfl))))
    refine fin_1 ⟨?_, rfl⟩
    rw [← f]
    simp
  · have e : n.tdiv b = n / b := Int.tdiv_eq_ediv_of_nonneg (by omega)
    ((repeat (first | refine ya (by (with_reducible constructor) <;> first | rfl | decide) ?_ | apply yb | refine yc rfl ?_ | ((first | apply yd | apply ye); simp (disch := first | exact List.all_nil | omega | (simp only [go_sem]; done) | (simp only [ln, List.length_map]; omega) | (repeat' first | assumption | exact Ext.refl _ | refine Ext.app ?_ _)) only [go_sem, e]; with_reducible rfl))))
    exact fin_1 ⟨rfl, rfl⟩

theorem signalErr1_c : Asks (.func (.func 131) #[] #[]) (fun n => !decide (-32767 ≤ n ∧ n ≤ 32767)) := fun n H => by
  show ACall _ _ _ _ _
  (refine a131 ?_; simp only [n131, List.replicate, List.length_cons, List.length_nil, List.cons_append, List.nil_append]; first | refine q1 ?_ | refine q2 ?_ | refine q6 ?_ | refine q7 ?_ | refine qh rfl ?_ | skip)
  ((repeat (first | refine ya (by (with_reducible constructor) <;> first | rfl | decide) ?_ | apply yb | refine yc rfl ?_ | ((first | apply yd | apply ye); simp (disch := first | exact List.all_nil | omega | (simp only [go_sem]; done) | (simp only [ln, List.length_map]; omega) | (repeat' first | assumption | exact Ext.refl _ | refine Ext.app ?_ _)) only [go_sem]; with_reducible rfl))))
  refine aops_call_to (isSized_c _ _ (by omega)) ?_
  ((repeat (first | refine ya (by (with_reducible constructor) <;> first | rfl | decide) ?_ | apply yb | refine yc rfl ?_ | ((first | apply yd | apply ye); simp (disch := first | exact List.all_nil | omega | (simp only [go_sem]; done) | (simp only [ln, List.length_map]; omega) | (repeat' first | assumption | exact Ext.refl _ | refine Ext.app ?_ _)) only [go_sem]; with_reducible rfl))))
  exact fin_1 ⟨rfl, rfl⟩
theorem signalErr_c {x : List Int} {v : Value} (hx : Ints H x v) (hb : x.length ≤ 1000000000) : ACall Go.Proofs.Tryd.prog 89 [v] H fun v H' => v = .int .i64 (signalErrL x) ∧ H' = H := by
  refine ACall.drop (.int _ _) ?_
  (refine a89 ?_; simp only [n89, List.replicate, List.length_cons, List.length_nil, List.cons_append, List.nil_append]; first | refine q1 ?_ | refine q2 ?_ | refine q6 ?_ | refine q7 ?_ | refine qh rfl ?_ | skip)
  ((repeat (first | refine ya (by (with_reducible constructor) <;> first | rfl | decide) ?_ | apply yb | refine yc rfl ?_ | ((first | apply yd | apply ye); simp (disch := first | exact List.all_nil | omega | (simp only [go_sem]; done) | (simp only [ln, List.length_map]; omega) | (repeat' first | assumption | exact Ext.refl _ | refine Ext.app ?_ _)) only [go_sem]; with_reducible rfl))))
  refine aops_call_to (containsFunc_c hx signalErr1_c hb) ?_
  rw [any_not]
  ((repeat (first | refine ya (by (with_reducible constructor) <;> first | rfl | decide) ?_ | apply yb | refine yc rfl ?_ | ((first | apply yd | apply ye); simp (disch := first | exact List.all_nil | omega | (simp only [go_sem]; done) | (simp only [ln, List.length_map]; omega) | (repeat' first | assumption | exact Ext.refl _ | refine Ext.app ?_ _)) only [go_sem, hx.len, hx.idx, hx.load]; with_reducible rfl))))
  refine aops_call_to (unless_c _ _) ?_
  ((repeat (first | refine ya (by (with_reducible constructor) <;> first | rfl | decide) ?_ | apply yb | refine yc rfl ?_ | ((first | apply yd | apply ye); simp (disch := first | exact List.all_nil | omega | (simp only [go_sem]; done) | (simp only [ln, List.length_map]; omega) | (repeat' first | assumption | exact Ext.refl _ | refine Ext.app ?_ _)) only [go_sem]; with_reducible rfl))))
  refine aops_call_to (unless_c _ _) ?_
  ((repeat (first | refine ya (by (with_reducible constructor) <;> first | rfl | decide) ?_ | apply yb | refine yc rfl ?_ | ((first | apply yd | apply ye); simp (disch := first | exact List.all_nil | omega | (simp only [go_sem]; done) | (simp only [ln, List.length_map]; omega) | (repeat' first | assumption | exact Ext.refl _ | refine Ext.app ?_ _)) only [go_sem]; with_reducible rfl))))
  refine aops_call_to (first_c (l := [_, _]) (Ints.last (l := [_, _]) 2) (by simp)) ?_
  ((repeat (first | refine ya (by (with_reducible constructor) <;> first | rfl | decide) ?_ | apply yb | refine yc rfl ?_ | ((first | apply yd | apply ye); simp (disch := first | exact List.all_nil | omega | (simp only [go_sem]; done) | (simp only [ln, List.length_map]; omega) | (repeat' first | assumption | exact Ext.refl _ | refine Ext.app ?_ _)) only [go_sem]; with_reducible rfl))))
  refine fin_1 ⟨?_, (Ext.refl _).app _⟩
  unfold signalErrL
  by_cases h1 : 400 < x.length
  · have : ¬ (x.length : Int) ≤ 400 := by omega
    simp [firstErr, h1, this]
  · have : (x.length : Int) ≤ 400 := by omega
    cases hq : x.all (fun n => decide (-32767 ≤ n ∧ n ≤ 32767)) <;> simp [firstErr, h1, this]
theorem refSignalErr_c {x : List Int} {v : Value} (hx : Ints H x v) (hb : x.length ≤ 1000000000) : ACall Go.Proofs.Tryd.prog 28 [v] H fun v H' => v = .int .i64 (signalErrL x) ∧ H' = H := by
  (refine a28 ?_; simp only [n28, List.replicate, List.length_cons, List.length_nil, List.cons_append, List.nil_append]; first | refine q1 ?_ | refine q2 ?_ | refine q6 ?_ | refine q7 ?_ | refine qh rfl ?_ | skip)
  ((repeat (first | refine ya (by (with_reducible constructor) <;> first | rfl | decide) ?_ | apply yb | refine yc rfl ?_ | ((first | apply yd | apply ye); simp (disch := first | exact List.all_nil | omega | (simp only [go_sem]; done) | (simp only [ln, List.length_map]; omega) | (repeat' first | assumption | exact Ext.refl _ | refine Ext.app ?_ _)) only [go_sem, hx.len, hx.idx, hx.load]; with_reducible rfl))))
  refine cond_p rfl (fun hlt => ?_) (fun hge => ?_)
  · ((repeat (first | refine ya (by (with_reducible constructor) <;> first | rfl | decide) ?_ | apply yb | refine yc rfl ?_ | ((first | apply yd | apply ye); simp (disch := first | exact List.all_nil | omega | (simp only [go_sem]; done) | (simp only [ln, List.length_map]; omega) | (repeat' first | assumption | exact Ext.refl _ | refine Ext.app ?_ _)) only [go_sem]; with_reducible rfl))))
    refine fin_1 ⟨?_, rfl⟩
    unfold signalErrL
    rw [if_pos (by omega)]; rfl
  · ((repeat (first | refine ya (by (with_reducible constructor) <;> first | rfl | decide) ?_ | apply yb | refine yc rfl ?_ | ((first | apply yd | apply ye); simp (disch := first | exact List.all_nil | omega | (simp only [go_sem]; done) | (simp only [ln, List.length_map]; omega) | (repeat' first | assumption | exact Ext.refl _ | refine Ext.app ?_ _)) only [go_sem]; with_reducible rfl))))
    refine awp_loop_n [true, false, false, true, false, false, false, false, false, false, false, false, false, false, false, false, false, false, false] x.length (fun i e H' => H' = H ∧ e = [v, junk, junk, .int .i64 i, junk, junk, junk, junk, junk, junk, junk, junk, junk, junk, junk, junk, junk, junk, junk] ∧ ∀ j < i, decide (-32767 ≤ x.getD j 0 ∧ x.getD j 0 ≤ 32767) = true) ?_ ?_
    · exact ⟨rfl, rfl, by omega⟩
    · rintro i e H' hi ⟨rfl, rfl, hp⟩
      ((repeat (first | refine ya (by (with_reducible constructor) <;> first | rfl | decide) ?_ | apply yb | refine yc rfl ?_ | ((first | apply yd | apply ye); simp (disch := first | exact List.all_nil | omega | (simp only [go_sem]; done) | (simp only [ln, List.length_map]; omega) | (repeat' first | assumption | exact Ext.refl _ | refine Ext.app ?_ _)) only [go_sem, hx.len, hx.idx, hx.load]; with_reducible rfl))))
      refine cond_p rfl (fun hlt => ?_) (fun hge => ?_)
      · ((repeat (first | refine ya (by (with_reducible constructor) <;> first | rfl | decide) ?_ | apply yb | refine yc rfl ?_ | ((first | apply yd | apply ye); simp (disch := first | exact List.all_nil | omega | (simp only [go_sem]; done) | (simp only [ln, List.length_map]; omega) | (repeat' first | assumption | exact Ext.refl _ | refine Ext.app ?_ _)) only [go_sem, hx.len, hx.idx, hx.load]; with_reducible rfl))))
        refine aops_call_to (bwithin_c _ _ _) ?_
        ((repeat (first | refine ya (by (with_reducible constructor) <;> first | rfl | decide) ?_ | apply yb | refine yc rfl ?_ | ((first | apply yd | apply ye); simp (disch := first | exact List.all_nil | omega | (simp only [go_sem]; done) | (simp only [ln, List.length_map]; omega) | (repeat' first | assumption | exact Ext.refl _ | refine Ext.app ?_ _)) only [go_sem]; with_reducible rfl))))
        refine cond_n rfl (fun hne => ?_) (fun heq => ?_)
        · ((repeat (first | refine ya (by (with_reducible constructor) <;> first | rfl | decide) ?_ | apply yb | refine yc rfl ?_ | ((first | apply yd | apply ye); simp (disch := first | exact List.all_nil | omega | (simp only [go_sem]; done) | (simp only [ln, List.length_map]; omega) | (repeat' first | assumption | exact Ext.refl _ | refine Ext.app ?_ _)) only [go_sem]; with_reducible rfl))))
          refine fin_1 ⟨?_, rfl⟩
          have : x.all (fun n => decide (-32767 ≤ n ∧ n ≤ 32767)) = false := all_false (d := 0) (i := i) (by omega) (by simpa using hne)
          unfold signalErrL
          rw [if_neg (by omega), this]; rfl
        · ((repeat (first | refine ya (by (with_reducible constructor) <;> first | rfl | decide) ?_ | apply yb | refine yc rfl ?_ | ((first | apply yd | apply ye); simp (disch := first | exact List.all_nil | omega | (simp only [go_sem]; done) | (simp only [ln, List.length_map]; omega) | (repeat' first | assumption | exact Ext.refl _ | refine Ext.app ?_ _)) only [go_sem]; with_reducible rfl))))
          refine ⟨by omega, rfl, by simp [forget], fun j hj => ?_⟩
          by_cases h : j = i
          · subst h; exact decide_eq_true heq
          · exact hp j (by omega)
      · ((repeat (first | refine ya (by (with_reducible constructor) <;> first | rfl | decide) ?_ | apply yb | refine yc rfl ?_ | ((first | apply yd | apply ye); simp (disch := first | exact List.all_nil | omega | (simp only [go_sem]; done) | (simp only [ln, List.length_map]; omega) | (repeat' first | assumption | exact Ext.refl _ | refine Ext.app ?_ _)) only [go_sem]; with_reducible rfl))))
        refine fin_1 ⟨?_, rfl⟩
        have : x.all (fun n => decide (-32767 ≤ n ∧ n ≤ 32767)) = true := all_true (d := 0) fun j hj => hp j (by omega)
        unfold signalErrL
        rw [if_neg (by omega), this]; rfl
end
end Go.Lq


namespace Go.Lq

def cv (f g : Nat → Int) : Nat → Int
  | 0 => f 0 * g 0
  | n + 1 => f 0 * g (n + 1) + cv (fun k => f (k + 1)) g n

end Go.Lq

namespace Go.Lq

def degErrL (n : Int) : Int := if n = 1 ∨ n = 3 then 0 else 15
theorem degErr_ok {n : Int} (h : degErrL n = 0) : n = 1 ∨ n = 3 := by
  unfold degErrL at h
  split at h
  · assumption
  · cases h
def weightsL (deg f : Int) : List Int :=
  if deg = 1 then [64 - f, f] else [(0 - f) * (f - 64) * (f - 128), 3 * (f + 64) * (f - 64) * (f - 128), -3 * (f + 64) * f * (f - 128), (f + 64) * f * (f - 64)]
def denL (deg : Int) : Int := if deg = 1 then 64 else 1572864
def fromL (deg : Int) : Int := if deg = 1 then 0 else -1
def rdenL (deg : Int) : Int := if deg = 1 then 8192 else 402653184
theorem weights_len (deg f : Int) : (weightsL deg f).length = if deg = 1 then 2 else 4 := by
  unfold weightsL; split <;> rfl
theorem weights_len_le (deg f : Int) : (weightsL deg f).length ≤ 4 := by rw [weights_len]; split <;> omega
theorem fin64 {f : Int} (h : 0 ≤ f ∧ f ≤ 63) : ∃ k : _root_.Fin 64, f = (k.val : Int) := ⟨⟨f.toNat, by omega⟩, by simp; omega⟩
theorem weights_bound {deg f : Int} (hd : deg = 1 ∨ deg = 3) (h : 0 ≤ f ∧ f ≤ 63) : ∀ j : Nat, -3121152 ≤ (weightsL deg f).getD j 0 ∧ (weightsL deg f).getD j 0 ≤ 3121152 := by
  have m1 := mul_abs (x := 0 - f) (y := f - 64) (a := 63) (b := 64) ⟨by omega, by omega⟩ ⟨by omega, by omega⟩
  have m2 := mul_abs (x := (0 - f) * (f - 64)) (y := f - 128) (a := 4032) (b := 128) ⟨by omega, by omega⟩ ⟨by omega, by omega⟩
  have m3 := mul_abs (x := 3 * (f + 64)) (y := f - 64) (a := 381) (b := 64) ⟨by omega, by omega⟩ ⟨by omega, by omega⟩
  have m4 := mul_abs (x := 3 * (f + 64) * (f - 64)) (y := f - 128) (a := 24384) (b := 128) ⟨by omega, by omega⟩ ⟨by omega, by omega⟩
  have m5 := mul_abs (x := -3 * (f + 64)) (y := f) (a := 381) (b := 63) ⟨by omega, by omega⟩ ⟨by omega, by omega⟩
  have m6 := mul_abs (x := -3 * (f + 64) * f) (y := f - 128) (a := 24003) (b := 128) ⟨by omega, by omega⟩ ⟨by omega, by omega⟩
  have m7 := mul_abs (x := f + 64) (y := f) (a := 127) (b := 63) ⟨by omega, by omega⟩ ⟨by omega, by omega⟩
  have m8 := mul_abs (x := (f + 64) * f) (y := f - 64) (a := 8001) (b := 64) ⟨by omega, by omega⟩ ⟨by omega, by omega⟩
  intro j
  rcases hd with rfl | rfl
  · match j with
    | 0 => simp [weightsL]; omega
    | 1 => simp [weightsL]; omega
    | j + 2 => simp [weightsL]
  · match j with
    | 0 => show -3121152 ≤ (0 - f) * (f - 64) * (f - 128) ∧ (0 - f) * (f - 64) * (f - 128) ≤ 3121152; omega
    | 1 => show -3121152 ≤ 3 * (f + 64) * (f - 64) * (f - 128) ∧ 3 * (f + 64) * (f - 64) * (f - 128) ≤ 3121152; omega
    | 2 => show -3121152 ≤ -3 * (f + 64) * f * (f - 128) ∧ -3 * (f + 64) * f * (f - 128) ≤ 3121152; omega
    | 3 => show -3121152 ≤ (f + 64) * f * (f - 64) ∧ (f + 64) * f * (f - 64) ≤ 3121152; omega
    | j + 4 => simp [weightsL]
def clampI (n : Nat) (j : Int) : Nat := (min (max j 0) ((n : Int) - 1)).toNat
theorem clampI_lt {n : Nat} {j : Int} (h : 0 < n) : clampI n j < n := by unfold clampI; omega
def valTo (w x : List Int) (at0 : Int) : Nat → Int
  | 0 => 0
  | i + 1 => valTo w x at0 i + w.getD i 0 * x.getD (clampI x.length (at0 + i)) 0
def valueL (deg : Int) (x : List Int) (q : Int) : Int := valTo (weightsL deg (q % 64)) x (q / 64 + fromL deg) (weightsL deg (q % 64)).length
theorem valTo_bound {w x : List Int} {at0 : Int} {a b : Nat} (hw : ∀ j : Nat, -(a : Int) ≤ w.getD j 0 ∧ w.getD j 0 ≤ a) (hx : ∀ j : Nat, -(b : Int) ≤ x.getD j 0 ∧ x.getD j 0 ≤ b) : ∀ i : Nat, -((a * b * i : Nat) : Int) ≤ valTo w x at0 i ∧ valTo w x at0 i ≤ ((a * b * i : Nat) : Int)
  | 0 => by simp [valTo]
  | i + 1 => by
    have ih := valTo_bound (at0 := at0) hw hx i
    have := mul_abs (hw i) (hx (clampI x.length (at0 + i)))
    unfold valTo
    rw [Nat.mul_add, Nat.mul_one]
    generalize a * b * i = u at *
    generalize a * b = t at *
    omega
theorem value_bound {deg : Int} {x : List Int} {q : Int} (hd : deg = 1 ∨ deg = 3) (hx : ∀ j : Nat, -32767 ≤ x.getD j 0 ∧ x.getD j 0 ≤ 32767) (hq : 0 ≤ q) : -500000000000 ≤ valueL deg x q ∧ valueL deg x q ≤ 500000000000 := by
  have h1 := valTo_bound (a := 3121152) (b := 32767) (at0 := q / 64 + fromL deg) (weights_bound hd (show 0 ≤ q % 64 ∧ q % 64 ≤ 63 by omega)) hx (weightsL deg (q % 64)).length
  have h2 := weights_len_le deg (q % 64)
  unfold valueL
  have h3 := Nat.mul_le_mul_left (3121152 * 32767) h2
  omega
end Go.Lq


namespace Go.Lq
open Go
open Go.Proofs

def nilR (v : Value) (H : AHeap) : Option (Value × AHeap) := match v with | .pointer (some a) => some (.pointer (some a), H) | .func (.func f) xs ys => some (.func (.func f) xs ys, H) | _ => none
theorem r_nilCheck {ρ : Operand → Value} {H : AHeap} {x : Operand} : ropRun (.nilCheck x) ρ H = nilR (ρ x) H := rfl
theorem nil_ptr {a : Addr} {H : AHeap} : nilR (.pointer (some a)) H = some (.pointer (some a), H) := rfl
attribute [go_sem] r_nilCheck nil_ptr

section
variable {H : AHeap}
end
end Go.Lq





namespace Go.Lq
open Go
open Go.Proofs

attribute [go_sem] Bool.false_bne Bool.true_bne
abbrev fracV (p : Int × Int) : Value := .agg ⟨[.int .i64 p.1, .int .i64 p.2]⟩
theorem closed_frac (p : Int × Int) : Closed (fracV p) := .agg _ (closed_list (l := [.int .i64 p.1, .int .i64 p.2]) fun v hv => by
  simp only [List.mem_cons, List.not_mem_nil, or_false] at hv
  rcases hv with rfl | rfl <;> exact .int _ _)
theorem closed_frac1 (p : Int × Int) (e : Int) : Closed (.tuple #[fracV p, .int .i64 e]) := .tuple _ (closed_list (l := [fracV p, .int .i64 e]) fun v hv => by
  simp only [List.mem_cons, List.not_mem_nil, or_false] at hv
  rcases hv with rfl | rfl
  · exact closed_frac p
  · exact .int _ _)
theorem fill2i {x y : Value} {a b : Int} : fillA [x, y] [(0, 1, .int .i64 a), (1, 1, .int .i64 b)] = some [.int .i64 a, .int .i64 b] := fill2v rfl

section
variable {H : AHeap}
end
end Go.Lq

namespace Go.Lq
open Go
open Go.Proofs

theorem isAtom_nilFunc : isAtom .nilFunc = true := rfl
theorem constOk_nilFunc : constOk .nilFunc = true := rfl
attribute [go_sem] r_idxA isAtom_nilFunc constOk_nilFunc
def wFn (deg : Int) : FuncId := if deg = 1 then 173 else 175
def pFn (deg : Int) : FuncId := if deg = 1 then 174 else 176
abbrev fnV (f : FuncId) : Value := .func (.func f) #[] #[]
def kern (deg : Int) : List Value := [.int .i64 (fromL deg), .int .i64 (denL deg), fnV (wFn deg), fnV (pFn deg), .int .i64 (rdenL deg)]
theorem kern_atoms (deg : Int) : (kern deg).all isAtom = true := rfl
theorem kern_idx {H : AHeap} {deg : Int} (hd : deg = 1 ∨ deg = 3) : idxAR 4 5 (.pointer (some ⟨0, 0, none⟩)) (.int .i64 deg) H = some (.pointer (some ⟨0, (5 * deg).toNat, none⟩), H) := by
  rcases hd with rfl | rfl
  · exact idxA_at (n := 1) (by omega)
  · exact idxA_at (n := 3) (by omega)
theorem kern_load {H : AHeap} (hx : Ext H0 H) {deg : Int} (hd : deg = 1 ∨ deg = 3) : loadNR 5 (.pointer (some ⟨0, (5 * deg).toNat, none⟩)) H = some (.agg ⟨kern deg⟩, H) := by
  have h0 : H[0]? = some (.cells false 5 kernelCells) := by rw [hx.get (by decide)]; rfl
  rcases hd with rfl | rfl
  · exact loadN_at h0 (by decide)
  · exact loadN_at h0 (by decide)
theorem box_kern {H : AHeap} {deg : Int} : boxR (.agg ⟨kern deg⟩) H = some (.pointer (some ⟨H.length, 0, none⟩), H ++ [.cells true 0 (kern deg)]) := box_agg (kern_atoms deg)
theorem store_kern {H : AHeap} {deg : Int} {a b c d e : Value} : storeR 5 (.pointer (some ⟨H.length, 0, none⟩)) (.agg ⟨kern deg⟩) (H ++ [.cells true 0 [a, b, c, d, e]]) = some (undef, H ++ [.cells true 0 (kern deg)]) := store_newN (kern_atoms deg) rfl rfl
section
variable {G : AHeap} {id : Nat} {deg : Int} {e : Nat}
theorem kern_from (h : G[id]? = some (.cells true e (kern deg))) : loadR (.pointer (some ⟨id, 0, none⟩)) G = some (.int .i64 (fromL deg), G) := by rw [load_at h]; rfl
theorem kern_den (h : G[id]? = some (.cells true e (kern deg))) : loadR (.pointer (some ⟨id, 1, none⟩)) G = some (.int .i64 (denL deg), G) := by rw [load_at h]; rfl
theorem kern_w (h : G[id]? = some (.cells true e (kern deg))) : loadR (.pointer (some ⟨id, 2, none⟩)) G = some (fnV (wFn deg), G) := by rw [load_at h]; rfl
theorem kern_all (h : G[id]? = some (.cells true e (kern deg))) : loadNR 5 (.pointer (some ⟨id, 0, none⟩)) G = some (.agg ⟨kern deg⟩, G) := loadN_at h (by show 0 + 5 ≤ 5; omega)
end

section
variable {H : AHeap}
theorem degreeErr_c (n : Int) : ACall Go.Proofs.Tryd.prog 95 [.int .i64 n] H fun v H' => v = .int .i64 (degErrL n) ∧ H' = H := by
  (refine a95 ?_; simp only [n95, List.replicate, List.length_cons, List.length_nil, List.cons_append, List.nil_append]; first | refine q1 ?_ | refine q2 ?_ | refine q6 ?_ | refine q7 ?_ | refine qh rfl ?_ | skip)
  by_cases h1 : n = 1
  · ((repeat (first | refine ya (by (with_reducible constructor) <;> first | rfl | decide) ?_ | apply yb | refine yc rfl ?_ | ((first | apply yd | apply ye); simp (disch := first | exact List.all_nil | omega | (simp only [go_sem]; done) | (simp only [ln, List.length_map]; omega) | (repeat' first | assumption | exact Ext.refl _ | refine Ext.app ?_ _)) only [go_sem, dec_t h1]; with_reducible rfl))))
    refine aops_call_to (unless_c _ _) ?_
    ((repeat (first | refine ya (by (with_reducible constructor) <;> first | rfl | decide) ?_ | apply yb | refine yc rfl ?_ | ((first | apply yd | apply ye); simp (disch := first | exact List.all_nil | omega | (simp only [go_sem]; done) | (simp only [ln, List.length_map]; omega) | (repeat' first | assumption | exact Ext.refl _ | refine Ext.app ?_ _)) only [go_sem]; with_reducible rfl))))
    exact fin_1 ⟨by unfold degErrL; rw [if_pos (.inl h1)]; rfl, rfl⟩
  · ((repeat (first | refine ya (by (with_reducible constructor) <;> first | rfl | decide) ?_ | apply yb | refine yc rfl ?_ | ((first | apply yd | apply ye); simp (disch := first | exact List.all_nil | omega | (simp only [go_sem]; done) | (simp only [ln, List.length_map]; omega) | (repeat' first | assumption | exact Ext.refl _ | refine Ext.app ?_ _)) only [go_sem, dec_f h1]; with_reducible rfl))))
    refine aops_call_to (unless_c _ _) ?_
    ((repeat (first | refine ya (by (with_reducible constructor) <;> first | rfl | decide) ?_ | apply yb | refine yc rfl ?_ | ((first | apply yd | apply ye); simp (disch := first | exact List.all_nil | omega | (simp only [go_sem]; done) | (simp only [ln, List.length_map]; omega) | (repeat' first | assumption | exact Ext.refl _ | refine Ext.app ?_ _)) only [go_sem]; with_reducible rfl))))
    exact fin_1 ⟨by unfold degErrL; by_cases h3 : n = 3 <;> simp [h1, h3], rfl⟩
theorem refDegreeErr_c (n : Int) : ACall Go.Proofs.Tryd.prog 29 [.int .i64 n] H fun v H' => v = .int .i64 (degErrL n) ∧ H' = H := by
  (refine a29 ?_; simp only [n29, List.replicate, List.length_cons, List.length_nil, List.cons_append, List.nil_append]; first | refine q1 ?_ | refine q2 ?_ | refine q6 ?_ | refine q7 ?_ | refine qh rfl ?_ | skip)
  by_cases h1 : n = 1
  · ((repeat (first | refine ya (by (with_reducible constructor) <;> first | rfl | decide) ?_ | apply yb | refine yc rfl ?_ | ((first | apply yd | apply ye); simp (disch := first | exact List.all_nil | omega | (simp only [go_sem]; done) | (simp only [ln, List.length_map]; omega) | (repeat' first | assumption | exact Ext.refl _ | refine Ext.app ?_ _)) only [go_sem, dec_f (show ¬ n ≠ 1 by omega)]; with_reducible rfl))))
    refine cond_f rfl ?_
    ((repeat (first | refine ya (by (with_reducible constructor) <;> first | rfl | decide) ?_ | apply yb | refine yc rfl ?_ | ((first | apply yd | apply ye); simp (disch := first | exact List.all_nil | omega | (simp only [go_sem]; done) | (simp only [ln, List.length_map]; omega) | (repeat' first | assumption | exact Ext.refl _ | refine Ext.app ?_ _)) only [go_sem]; with_reducible rfl))))
    exact fin_1 ⟨by unfold degErrL; rw [if_pos (.inl h1)]; rfl, rfl⟩
  · by_cases h3 : n = 3
    · ((repeat (first | refine ya (by (with_reducible constructor) <;> first | rfl | decide) ?_ | apply yb | refine yc rfl ?_ | ((first | apply yd | apply ye); simp (disch := first | exact List.all_nil | omega | (simp only [go_sem]; done) | (simp only [ln, List.length_map]; omega) | (repeat' first | assumption | exact Ext.refl _ | refine Ext.app ?_ _)) only [go_sem, dec_t h1, dec_f (show ¬ n ≠ 3 by omega)]; with_reducible rfl))))
      refine cond_f rfl ?_
      ((repeat (first | refine ya (by (with_reducible constructor) <;> first | rfl | decide) ?_ | apply yb | refine yc rfl ?_ | ((first | apply yd | apply ye); simp (disch := first | exact List.all_nil | omega | (simp only [go_sem]; done) | (simp only [ln, List.length_map]; omega) | (repeat' first | assumption | exact Ext.refl _ | refine Ext.app ?_ _)) only [go_sem]; with_reducible rfl))))
      exact fin_1 ⟨by unfold degErrL; rw [if_pos (.inr h3)]; rfl, rfl⟩
    · ((repeat (first | refine ya (by (with_reducible constructor) <;> first | rfl | decide) ?_ | apply yb | refine yc rfl ?_ | ((first | apply yd | apply ye); simp (disch := first | exact List.all_nil | omega | (simp only [go_sem]; done) | (simp only [ln, List.length_map]; omega) | (repeat' first | assumption | exact Ext.refl _ | refine Ext.app ?_ _)) only [go_sem, dec_t h1, dec_t h3]; with_reducible rfl))))
      refine cond_t rfl ?_
      ((repeat (first | refine ya (by (with_reducible constructor) <;> first | rfl | decide) ?_ | apply yb | refine yc rfl ?_ | ((first | apply yd | apply ye); simp (disch := first | exact List.all_nil | omega | (simp only [go_sem]; done) | (simp only [ln, List.length_map]; omega) | (repeat' first | assumption | exact Ext.refl _ | refine Ext.app ?_ _)) only [go_sem]; with_reducible rfl))))
      exact fin_1 ⟨by unfold degErrL; rw [if_neg (by omega)]; rfl, rfl⟩
theorem weights_c {deg f : Int} (hd : deg = 1 ∨ deg = 3) (h : 0 ≤ f ∧ f ≤ 63) : ACall Go.Proofs.Tryd.prog (wFn deg) [.int .i64 f] H fun v H' =>
    v = .slice (some ⟨H.length, 0, none⟩) (weightsL deg f).length (weightsL deg f).length ∧ H' = H ++ [.cells true 1 ((weightsL deg f).map (.int .i64))] := by
  have m1 := mul_abs (x := 0 - f) (y := f - 64) (a := 63) (b := 64) ⟨by omega, by omega⟩ ⟨by omega, by omega⟩
  have m2 := mul_abs (x := (0 - f) * (f - 64)) (y := f - 128) (a := 4032) (b := 128) ⟨by omega, by omega⟩ ⟨by omega, by omega⟩
  have m3 := mul_abs (x := 3 * (f + 64)) (y := f - 64) (a := 381) (b := 64) ⟨by omega, by omega⟩ ⟨by omega, by omega⟩
  have m4 := mul_abs (x := 3 * (f + 64) * (f - 64)) (y := f - 128) (a := 24384) (b := 128) ⟨by omega, by omega⟩ ⟨by omega, by omega⟩
  have m5 := mul_abs (x := -3 * (f + 64)) (y := f) (a := 381) (b := 63) ⟨by omega, by omega⟩ ⟨by omega, by omega⟩
  have m6 := mul_abs (x := -3 * (f + 64) * f) (y := f - 128) (a := 24003) (b := 128) ⟨by omega, by omega⟩ ⟨by omega, by omega⟩
  have m7 := mul_abs (x := f + 64) (y := f) (a := 127) (b := 63) ⟨by omega, by omega⟩ ⟨by omega, by omega⟩
  have m8 := mul_abs (x := (f + 64) * f) (y := f - 64) (a := 8001) (b := 64) ⟨by omega, by omega⟩ ⟨by omega, by omega⟩
  rcases hd with rfl | rfl
  · show ACall _ 173 _ _ _
    (refine a173 ?_; simp only [n173, List.replicate, List.length_cons, List.length_nil, List.cons_append, List.nil_append]; first | refine q1 ?_ | refine q2 ?_ | refine q6 ?_ | refine q7 ?_ | refine qh rfl ?_ | skip)
    ((repeat (first | refine ya (by (with_reducible constructor) <;> first | rfl | decide) ?_ | apply yb | refine yc rfl ?_ | ((first | apply yd | apply ye); simp (disch := first | exact List.all_nil | omega | (simp only [go_sem]; done) | (simp only [ln, List.length_map]; omega) | (repeat' first | assumption | exact Ext.refl _ | refine Ext.app ?_ _)) only [go_sem]; with_reducible rfl))))
    exact fin_1 ⟨rfl, rfl⟩
  · show ACall _ 175 _ _ _
    (refine a175 ?_; simp only [n175, List.replicate, List.length_cons, List.length_nil, List.cons_append, List.nil_append]; first | refine q1 ?_ | refine q2 ?_ | refine q6 ?_ | refine q7 ?_ | refine qh rfl ?_ | skip)
    ((repeat (first | refine ya (by (with_reducible constructor) <;> first | rfl | decide) ?_ | apply yb | refine yc rfl ?_ | ((first | apply yd | apply ye); simp (disch := first | exact List.all_nil | omega | (simp only [go_sem]; done) | (simp only [ln, List.length_map]; omega) | (repeat' first | assumption | exact Ext.refl _ | refine Ext.app ?_ _)) only [go_sem]; with_reducible rfl))))
    exact fin_1 ⟨rfl, rfl⟩
theorem value_c {deg q : Int} {x : List Int} {v : Value} (hd : deg = 1 ∨ deg = 3) (hX : Ints H x v) (hxl : x.length ≤ 400) (hxb : ∀ j : Nat, -32767 ≤ x.getD j 0 ∧ x.getD j 0 ≤ 32767) (hq : 0 ≤ q ∧ q ≤ 64 * ((x.length : Int) - 1)) :
    ACall Go.Proofs.Tryd.prog 92 [.agg ⟨kern deg⟩, v, .int .i64 q] H fun w H' => w = .int .i64 (valueL deg x q) ∧ H' = H := by
  refine ACall.drop (.int _ _) ?_
  have hx0 : 0 < x.length := by omega
  have hm : 0 ≤ q % 64 ∧ q % 64 ≤ 63 := by omega
  have e1 : q.tmod 64 = q % 64 := Int.tmod_eq_emod_of_nonneg hq.1
  have e2 : q.tdiv 64 = q / 64 := Int.tdiv_eq_ediv_of_nonneg hq.1
  have hfr : -1 ≤ fromL deg ∧ fromL deg ≤ 0 := by unfold fromL; split <;> omega
  have wb := weights_bound hd hm
  have wl := weights_len_le deg (q % 64)
  have hfin : valTo (weightsL deg (q % 64)) x (q / 64 + fromL deg) (weightsL deg (q % 64)).length = valueL deg x q := rfl
  (refine a92 ?_; simp only [n92, List.replicate, List.length_cons, List.length_nil, List.cons_append, List.nil_append]; first | refine q1 ?_ | refine q2 ?_ | refine q6 ?_ | refine q7 ?_ | refine qh rfl ?_ | skip)
  (repeat (first | refine ya (by (with_reducible constructor) <;> first | rfl | decide) ?_ | (apply yd; simp (disch := first | exact List.all_nil | omega | (simp only [go_sem]; done) | (simp only [ln, List.length_map]; omega) | (repeat' first | assumption | exact Ext.refl _ | refine Ext.app ?_ _)) only [go_sem, box_kern]; with_reducible rfl)))
  have g0 : (H ++ [AObj.cells true 0 (kern deg)])[H.length]? = some (.cells true 0 (kern deg)) := at_new
  have xG : Ext H (H ++ [AObj.cells true 0 (kern deg)]) := (Ext.refl H).app _
  generalize (H ++ [AObj.cells true 0 (kern deg)] : AHeap) = G at g0 xG
  ((repeat (first | refine ya (by (with_reducible constructor) <;> first | rfl | decide) ?_ | apply yb | refine yc rfl ?_ | ((first | apply yd | apply ye); simp (disch := first | exact List.all_nil | omega | (simp only [go_sem]; done) | (simp only [ln, List.length_map]; omega) | (repeat' first | assumption | exact Ext.refl _ | refine Ext.app ?_ _)) only [go_sem, kern_w g0, a_rem (show (64 : Int) ≠ 0 by decide), e1]; with_reducible rfl))))
  refine aops_call ((weights_c (H := G) hd hm).mono fun u G1 ⟨h1, h2⟩ => ?_)
  have hW : Ints G1 (weightsL deg (q % 64)) u := by rw [h1, h2]; exact Ints.last _
  have x1 : Ext G G1 := ⟨_, h2⟩
  clear h1 h2
  generalize weightsL deg (q % 64) = ws at hW wb wl hfin
  have hX1 := hX.ext (xG.trans x1)
  have g1 := x1.cell g0
  ((repeat (first | refine ya (by (with_reducible constructor) <;> first | rfl | decide) ?_ | apply yb | refine yc rfl ?_ | ((first | apply yd | apply ye); simp (disch := first | exact List.all_nil | omega | (simp only [go_sem]; done) | (simp only [ln, List.length_map]; omega) | (repeat' first | assumption | exact Ext.refl _ | refine Ext.app ?_ _)) only [go_sem, hW.len, hW.idx, hW.load]; with_reducible rfl))))
  refine awp_loop_n [false, true, true, true, false, false, false, true, false, false, false, false, false, false, false, true, true, true, false, false, false, false, false, false, false, false, false, false, false, false, false, false, false, false, false, false, false, false, false, false, false, false, false, false] ws.length (fun i e H' => H' = G1 ∧ e = [junk, v, .int .i64 q, .pointer (some ⟨H.length, 0, none⟩), junk, junk, junk, .int .i64 (valTo ws x (q / 64 + fromL deg) i), junk, junk, junk, junk, junk, junk, junk, u, .int .i64 (ws.length : Nat), .int .i64 i, junk, junk, junk, junk, junk, junk, junk, junk, junk, junk, junk, junk, junk, junk, junk, junk, junk, junk, junk, junk, junk, junk, junk, junk, junk, junk]) ?_ ?_
  · exact ⟨rfl, by simp [forget, valTo]⟩
  rintro i e H' hi ⟨rfl, rfl⟩
  have b1 := valTo_bound (a := 3121152) (b := 32767) (at0 := q / 64 + fromL deg) wb hxb i
  ((repeat (first | refine ya (by (with_reducible constructor) <;> first | rfl | decide) ?_ | apply yb | refine yc rfl ?_ | ((first | apply yd | apply ye); simp (disch := first | exact List.all_nil | omega | (simp only [go_sem]; done) | (simp only [ln, List.length_map]; omega) | (repeat' first | assumption | exact Ext.refl _ | refine Ext.app ?_ _)) only [go_sem]; with_reducible rfl))))
  refine cond_p rfl (fun hlt => ?_) (fun hge => ?_)
  · have hi' : i < ws.length := by omega
    have hcl := clampI_lt (j := q / 64 + fromL deg + i) hx0
    have b2 := mul_abs (x := ws.getD i 0) (y := x.getD (clampI x.length (q / 64 + fromL deg + i)) 0) (a := 3121152) (b := 32767) (wb i) (hxb _)
    have ec : (min (max (q / 64 + fromL deg + i) 0) ((x.length : Int) - 1)).toNat = clampI x.length (q / 64 + fromL deg + i) := rfl
    have ecb : 0 ≤ min (max (q / 64 + fromL deg + i) 0) ((x.length : Int) - 1) ∧ min (max (q / 64 + fromL deg + i) 0) ((x.length : Int) - 1) < x.length := by omega
    ((repeat (first | refine ya (by (with_reducible constructor) <;> first | rfl | decide) ?_ | apply yb | refine yc rfl ?_ | ((first | apply yd | apply ye); simp (disch := first | exact List.all_nil | omega | (simp only [go_sem]; done) | (simp only [ln, List.length_map]; omega) | (repeat' first | assumption | exact Ext.refl _ | refine Ext.app ?_ _)) only [go_sem, hW.len, hW.idx, hW.load, hX1.len, hX1.idx, hX1.load, kern_from g1, e2, ec]; with_reducible rfl))))
    exact ⟨by omega, rfl, by simp [forget, valTo]⟩
  · obtain rfl : i = ws.length := by omega
    rw [hfin]
    ((repeat (first | refine ya (by (with_reducible constructor) <;> first | rfl | decide) ?_ | apply yb | refine yc rfl ?_ | ((first | apply yd | apply ye); simp (disch := first | exact List.all_nil | omega | (simp only [go_sem]; done) | (simp only [ln, List.length_map]; omega) | (repeat' first | assumption | exact Ext.refl _ | refine Ext.app ?_ _)) only [go_sem]; with_reducible rfl))))
    exact fin_1 ⟨rfl, xG.trans x1⟩
end
end Go.Lq


namespace Go.Lq
open Go
open Go.Proofs

theorem store_b1 {H : AHeap} {id e : Nat} {x y : Value} (h : H[id]? = some (.cells true e [x])) (ha : isAtom y = true) (hc : y.cells = ⟨[y]⟩) : storeR 1 (.pointer (some ⟨id, 0, none⟩)) y H = some (undef, H.set id (.cells true e [y])) := by
  have e2 : ([y] : List Value).all isAtom = true := by simp [ha]
  have e3 : setCells [x] 0 [y] = [y] := rfl
  simp only [storeR, hc, List.size_toArray, storeAt, h, e2, e3, and_true, List.length_cons, List.length_nil]
  rfl
theorem store_b2 {H : AHeap} {id e : Nat} {x y : Value} {a b : Int} (h : H[id]? = some (.cells true e [x, y])) : storeR 2 (.pointer (some ⟨id, 0, none⟩)) (.agg ⟨[.int .i64 a, .int .i64 b]⟩) H = some (undef, H.set id (.cells true e [.int .i64 a, .int .i64 b])) := store_at2v h rfl rfl
/-! ### A slice in a box, grown in a range over a function -/
theorem OwnI.aside {H0 H : AHeap} {l : List Int} {v : Value} (h : OwnI H0 H l v) {j : Nat} (hj : j < H0.length) : l.length = 0 ∨ idOf v ≠ j := by
  rcases h.2 with ⟨rfl, h0⟩ | ⟨id, rfl, h1, _, _⟩
  · exact .inl h0
  · exact .inr (by show id ≠ j; omega)
theorem OwnI.pushedL {H0 H : AHeap} {l : List Int} {v : Value} (h : OwnI H0 H l v) (hx : H0.length ≤ H.length) (x : Int) : OwnI H0 (pushH H v l x) (l ++ [x]) (pushV H l.length) := by
  have := Own.appended (h.app [.cells true 1 [.int .i64 x]]) (m := 1) (cs := [.int .i64 x]) rfl (by omega) (by simp; omega)
  unfold OwnI
  simpa [pushV, pushH] using this
theorem Keeps.push {k : Nat} {G G' H : AHeap} {l : List Int} {v : Value} (h : Keeps k G H) (ho : OwnI G' H l v) (hg : G.length ≤ G'.length) (x : Int) : Keeps k G (pushH H v l x) := by
  refine ⟨by rw [pushH_len]; have := h.1; omega, fun i hi hk => ?_⟩
  have hl : i < H.length := by have := h.1; omega
  unfold pushH
  rw [appH_at (by simp; omega) (ho.nil_or (ho.aside (by omega))), List.getElem?_append_left hl]
  exact h.2 i hi hk
structure BoxI (k : Nat) (G : AHeap) (l : List Int) (v : Value) (H : AHeap) : Prop where
  keeps : Keeps k G H
  box : H[k]? = some (.cells true 0 [v])
  own : OwnI (G ++ [.dead]) H l v
theorem BoxI.set {k : Nat} {G H : AHeap} {l : List Int} {v : Value} (h : BoxI k G l v H) (hk : k < G.length) (c : AObj) : BoxI k G l v (H.set G.length c) :=
  ⟨h.keeps.set (.inr (Nat.le_refl _)) _, by rw [List.getElem?_set_ne (by omega)]; exact h.box, h.own.set_ne (h.own.aside (by simp)) _⟩
theorem BoxI.app {k : Nat} {G H : AHeap} {l : List Int} {v : Value} (h : BoxI k G l v H) (N : AHeap) : BoxI k G l v (H ++ N) :=
  ⟨h.keeps.app N, at_app h.box, h.own.app N⟩
theorem BoxI.push {k : Nat} {G H : AHeap} {l : List Int} {v : Value} (h : BoxI k G l v H) (hk : k < G.length) (hl : G.length < H.length) (x : Int) {Rb : AObj} (hR : H[G.length]? = some Rb) :
    storeR 1 (.pointer (some ⟨k, 0, none⟩)) (pushV H l.length) (pushH H v l x) = some (undef, (pushH H v l x).set k (.cells true 0 [pushV H l.length])) ∧
    BoxI k G (l ++ [x]) (pushV H l.length) ((pushH H v l x).set k (.cells true 0 [pushV H l.length])) ∧ ((pushH H v l x).set k (.cells true 0 [pushV H l.length]))[G.length]? = some Rb := by
  have b1 := pushH_at (l := l) (x := x) h.box (h.own.nil_or (h.own.aside (by simp; omega)))
  have b2 := pushH_at (l := l) (x := x) hR (h.own.nil_or (h.own.aside (by simp)))
  refine ⟨store_b1 b1 rfl rfl, ⟨(h.keeps.push h.own (by simp) x).set (.inl rfl) _, get_set_self b1, ?_⟩, by rw [List.getElem?_set_ne (by omega)]; exact b2⟩
  have ho := h.own.pushedL (by simp; omega) x
  exact ho.set_ne (.inr (by show H.length + 1 ≠ k; omega)) _

/-! ### slices.Backward over numbers -/
theorem store_newF {H : AHeap} {p : Int × Int} {a b : Int} : storeR 2 (.pointer (some ⟨H.length, 0, none⟩)) (fracV p) (H ++ [.cells true 0 [.int .i64 a, .int .i64 b]]) = some (undef, H ++ [.cells true 0 [.int .i64 p.1, .int .i64 p.2]]) := store_new2
theorem fill_none (zs : List Value) : fillA zs [] = some zs := rfl
theorem fin_l2f {c : RCode} {n a b : Nat} {R : Value → AHeap → Prop} {e : Env} {H : AHeap} {id : Nat} {o : Bool} {z : Nat} {x y : Value} (hp : e.getD a undef = .pointer (some ⟨id, 0, none⟩)) (h1 : H[id]? = some (.cells o z [x, y])) (h : R (.tuple #[.agg ⟨[x, y]⟩, e.getD b undef]) H) :
    Fin ⟨c, n, [.loadN 2 a, .tmp b]⟩ R .ret e H := fin_l2 (u := .agg ⟨[x, y]⟩) (by rw [hp]; exact loadN_at h1 (by simp)) h

section
variable {H : AHeap}
end
end Go.Lq

namespace Go.Lq
open Go
open Go.Proofs

theorem most_max3 {a b c : Int} {H : AHeap} : mostR true (.int .i64 a) [.int .i64 b, .int .i64 c] H = some (.int .i64 (max (max a b) c), H) := by
  simp only [mostR, mostA, Option.map_some, if_true]
  congr 3
  split <;> split <;> omega
theorem most_min3 {a b c : Int} {H : AHeap} : mostR false (.int .i64 a) [.int .i64 b, .int .i64 c] H = some (.int .i64 (min (min a b) c), H) := by
  simp only [mostR, mostA, Option.map_some]
  congr 3
  simp only [Bool.false_eq_true, if_false]
  split <;> split <;> omega
attribute [go_sem] most_max3 most_min3
section
variable {H : AHeap}
end
end Go.Lq

namespace Go.Lq
open Go
open Go.Proofs

def eqvR (kind : Nat) (neg : Bool) (x y : Value) (H : AHeap) : Option (Value × AHeap) := (eqvA kind x y).map fun b => (.bool (neg != b), H)
theorem r_eqv {ρ : Operand → Value} {H : AHeap} {k : Nat} {neg : Bool} {x y : Operand} : ropRun (.eqv k neg x y) ρ H = eqvR k neg (ρ x) (ρ y) H := rfl
theorem eqv_slN {neg : Bool} {a : Addr} {n c : Nat} {H : AHeap} : eqvR 2 neg (.slice (some a) n c) (.slice none 0 0) H = some (.bool (neg != false), H) := rfl
theorem eqv_slNN {neg : Bool} {H : AHeap} : eqvR 2 neg (.slice none 0 0) (.slice none 0 0) H = some (.bool (neg != true), H) := rfl
attribute [go_sem] r_eqv eqv_slN eqv_slNN
theorem ints_first {H : AHeap} {id c : Nat} {l r : List Int} {b : Bool} (h : H[id]? = some (.cells b 1 ((l ++ r).map (.int .i64)))) : Ints H l (.slice (some ⟨id, 0, none⟩) l.length c) := by
  refine ⟨by simp, .inr ⟨id, 0, c, rfl, fun _ => ?_⟩⟩
  unfold cellsAt
  rw [h]
  simp only
  rw [if_pos (by simp), List.drop_zero, List.map_append, List.take_append_of_le_length (by simp), List.take_of_length_le (by simp)]
theorem store_cellI {H : AHeap} {id n c i : Nat} {l : List Int} (h : H[id]? = some (.cells true 1 (l.map (.int .i64)))) (hi : i < l.length) (x : Int) :
    storeR 1 (addrOf (.slice (some ⟨id, 0, none⟩) n c) i) (.int .i64 x) H = some (undef, H.set id (.cells true 1 ((l.set i x).map (.int .i64)))) := by
  have e1 : (Value.int .i64 x).cells.toList = [.int .i64 x] := rfl
  have e2 : (Value.int .i64 x).cells.size = 1 := rfl
  have e3 : ([Value.int .i64 x]).all isAtom = true := rfl
  simp only [addrOf, Nat.zero_add, storeR, e1, e2, if_true, storeAt, h, e3, and_true, List.length_map]
  rw [if_pos (by simp; omega), setCells_one _ _ _ (by simpa using hi)]
  simp only [Option.map_some, List.map_set]

section
variable {H : AHeap}
end
end Go.Lq

namespace Go.Lq
open Go
open Go.Proofs

theorem set_in {H : AHeap} {A A' B : AObj} : (H ++ [A] ++ [B]).set H.length A' = H ++ [A'] ++ [B] := by
  rw [List.set_append_left _ _ (by simp), List.set_append_right _ _ (by simp)]
  simp
section
variable {G : AHeap} {l : List Int} {n : Nat} {d : Int}
end

theorem store_c0 {H : AHeap} {id e : Nat} {x y z : Value} (h : H[id]? = some (.cells true e [x, z])) (ha : isAtom y = true) (hc : y.cells = ⟨[y]⟩) : storeR 1 (.pointer (some ⟨id, 0, none⟩)) y H = some (undef, H.set id (.cells true e [y, z])) := by
  have e2 : ([y] : List Value).all isAtom = true := by simp [ha]
  have e3 : setCells [x, z] 0 [y] = [y, z] := rfl
  simp only [storeR, hc, List.size_toArray, storeAt, h, e2, e3, and_true, List.length_cons, List.length_nil]
  rfl
structure BoxD (k : Nat) (G : AHeap) (l : List Int) (v : Value) (d : Int) (H : AHeap) : Prop where
  keeps : Keeps k G H
  box : H[k]? = some (.cells true 0 [v, .int .i64 d])
  own : OwnI G H l v
theorem BoxD.push {k : Nat} {G H : AHeap} {l : List Int} {v : Value} {d : Int} (h : BoxD k G l v d H) (hk : k < G.length) (x : Int) :
    storeR 1 (.pointer (some ⟨k, 0, none⟩)) (pushV H l.length) (pushH H v l x) = some (undef, (pushH H v l x).set k (.cells true 0 [pushV H l.length, .int .i64 d])) ∧
    BoxD k G (l ++ [x]) (pushV H l.length) d ((pushH H v l x).set k (.cells true 0 [pushV H l.length, .int .i64 d])) := by
  have b1 := pushH_at (l := l) (x := x) h.box (h.own.nil_or (h.own.aside hk))
  have hl := h.keeps.1
  refine ⟨store_c0 b1 rfl rfl, ⟨(h.keeps.push h.own (Nat.le_refl _) x).set (.inl rfl) _, get_set_self b1, ?_⟩⟩
  exact (h.own.pushedL hl x).set_ne (.inr (by show H.length + 1 ≠ k; omega)) _
section
variable {H : AHeap}
end
end Go.Lq

namespace Go.Lq
open Go
open Go.Proofs

section
variable {H : AHeap}
theorem swithin_c (n lo hi : Int) : ACall Go.Proofs.Tryd.prog 141 [.int .i64 n, .int .i64 lo, .int .i64 hi] H fun v H' => v = .bool (decide (lo ≤ n ∧ n ≤ hi)) ∧ H' = H := by
  (refine a141 ?_; simp only [n141, List.replicate, List.length_cons, List.length_nil, List.cons_append, List.nil_append]; first | refine q1 ?_ | refine q2 ?_ | refine q6 ?_ | refine q7 ?_ | refine qh rfl ?_ | skip)
  (repeat (first | refine ya (by (with_reducible constructor) <;> first | rfl | decide) ?_ | apply yb | refine yc rfl ?_)); (refine aops_until (by simp (disch := first | exact List.all_nil | omega | (simp only [go_sem]; done) | (simp only [ln, List.length_map]; omega) | (repeat' first | assumption | exact Ext.refl _ | refine Ext.app ?_ _)) only [go_sem]; with_reducible rfl) ?_); (repeat (first | refine ya (by (with_reducible constructor) <;> first | rfl | decide) ?_ | apply yb | refine yc rfl ?_))
  by_cases h : lo ≤ n
  · (refine aops_until (by simp (disch := first | exact List.all_nil | omega | (simp only [go_sem]; done) | (simp only [ln, List.length_map]; omega) | (repeat' first | assumption | exact Ext.refl _ | refine Ext.app ?_ _)) only [go_sem, h]; with_reducible rfl) ?_)
    (repeat (first | refine ya (by (with_reducible constructor) <;> first | rfl | decide) ?_ | apply yb | refine yc rfl ?_))
    refine fin_1 ⟨?_, rfl⟩
    simp [h]
  · (refine aops_until (by simp (disch := first | exact List.all_nil | omega | (simp only [go_sem]; done) | (simp only [ln, List.length_map]; omega) | (repeat' first | assumption | exact Ext.refl _ | refine Ext.app ?_ _)) only [go_sem, h]; with_reducible rfl) ?_)
    (repeat (first | refine ya (by (with_reducible constructor) <;> first | rfl | decide) ?_ | apply yb | refine yc rfl ?_))
    refine fin_1 ⟨?_, rfl⟩
    simp [h]
theorem sunless_c (b : Bool) (e : Int) : ACall Go.Proofs.Tryd.prog 134 [.bool b, .int .i64 e] H fun v H' => v = .int .i64 (if b then 0 else e) ∧ H' = H := by
  (refine a134 ?_; simp only [n134, List.replicate, List.length_cons, List.length_nil, List.cons_append, List.nil_append]; first | refine q1 ?_ | refine q2 ?_ | refine q6 ?_ | refine q7 ?_ | refine qh rfl ?_ | skip)
  (repeat (first | refine ya (by (with_reducible constructor) <;> first | rfl | decide) ?_ | apply yb | refine yc rfl ?_)); (refine aops_until (by simp (disch := first | exact List.all_nil | omega | (simp only [go_sem]; done) | (simp only [ln, List.length_map]; omega) | (repeat' first | assumption | exact Ext.refl _ | refine Ext.app ?_ _)) only [go_sem]; with_reducible rfl) ?_); (repeat (first | refine ya (by (with_reducible constructor) <;> first | rfl | decide) ?_ | apply yb | refine yc rfl ?_)); (refine aops_until (by simp (disch := first | exact List.all_nil | omega | (simp only [go_sem]; done) | (simp only [ln, List.length_map]; omega) | (repeat' first | assumption | exact Ext.refl _ | refine Ext.app ?_ _)) only [go_sem]; with_reducible rfl) ?_); (repeat (first | refine ya (by (with_reducible constructor) <;> first | rfl | decide) ?_ | apply yb | refine yc rfl ?_))
  cases b with
  | true =>
    refine cond_t rfl ?_
    (repeat (first | refine ya (by (with_reducible constructor) <;> first | rfl | decide) ?_ | apply yb | refine yc rfl ?_)); (refine aops_until (by simp (disch := first | exact List.all_nil | omega | (simp only [go_sem]; done) | (simp only [ln, List.length_map]; omega) | (repeat' first | assumption | exact Ext.refl _ | refine Ext.app ?_ _)) only [go_sem]; with_reducible rfl) ?_); (repeat (first | refine ya (by (with_reducible constructor) <;> first | rfl | decide) ?_ | apply yb | refine yc rfl ?_))
    exact fin_1 ⟨rfl, rfl⟩
  | false =>
    refine cond_f rfl ?_
    (repeat (first | refine ya (by (with_reducible constructor) <;> first | rfl | decide) ?_ | apply yb | refine yc rfl ?_)); (refine aops_until (by simp (disch := first | exact List.all_nil | omega | (simp only [go_sem]; done) | (simp only [ln, List.length_map]; omega) | (repeat' first | assumption | exact Ext.refl _ | refine Ext.app ?_ _)) only [go_sem]; with_reducible rfl) ?_); (repeat (first | refine ya (by (with_reducible constructor) <;> first | rfl | decide) ?_ | apply yb | refine yc rfl ?_))
    exact fin_1 ⟨rfl, rfl⟩
theorem sfirst_c {l : List Int} {v : Value} (hl : Ints H l v) (hb : l.length ≤ 1000000) : ACall Go.Proofs.Tryd.prog 133 [v] H fun v H' => v = .int .i64 (firstErr l) ∧ H' = H := by
  (refine a133 ?_; simp only [n133, List.replicate, List.length_cons, List.length_nil, List.cons_append, List.nil_append]; first | refine q1 ?_ | refine q2 ?_ | refine q6 ?_ | refine q7 ?_ | refine qh rfl ?_ | skip)
  (repeat (first | refine ya (by (with_reducible constructor) <;> first | rfl | decide) ?_ | apply yb | refine yc rfl ?_)); (refine aops_until (by simp (disch := first | exact List.all_nil | omega | (simp only [go_sem]; done) | (simp only [ln, List.length_map]; omega) | (repeat' first | assumption | exact Ext.refl _ | refine Ext.app ?_ _)) only [go_sem]; with_reducible rfl) ?_); (repeat (first | refine ya (by (with_reducible constructor) <;> first | rfl | decide) ?_ | apply yb | refine yc rfl ?_)); (refine aops_until (by simp (disch := first | exact List.all_nil | omega | (simp only [go_sem]; done) | (simp only [ln, List.length_map]; omega) | (repeat' first | assumption | exact Ext.refl _ | refine Ext.app ?_ _)) only [go_sem, hl.len, hl.idx, hl.load]; with_reducible rfl) ?_); (repeat (first | refine ya (by (with_reducible constructor) <;> first | rfl | decide) ?_ | apply yb | refine yc rfl ?_))
  refine awp_loop_n [true, false, true, false, false, true, true, true, false, false, false, false, false, false, false] l.length (fun i e H' => H' = H ∧ e = [v, junk, .int .i64 0, junk, junk, v, .int .i64 l.length, .int .i64 i, junk, junk, junk, junk, junk, junk, junk] ∧ ∀ j < i, l.getD j 0 = 0) ?_ ?_
  · exact ⟨rfl, rfl, by omega⟩
  · rintro i e H' hi ⟨rfl, rfl, hp⟩
    (repeat (first | refine ya (by (with_reducible constructor) <;> first | rfl | decide) ?_ | apply yb | refine yc rfl ?_)); (refine aops_until (by simp (disch := first | exact List.all_nil | omega | (simp only [go_sem]; done) | (simp only [ln, List.length_map]; omega) | (repeat' first | assumption | exact Ext.refl _ | refine Ext.app ?_ _)) only [go_sem, hl.len, hl.idx, hl.load]; with_reducible rfl) ?_); (repeat (first | refine ya (by (with_reducible constructor) <;> first | rfl | decide) ?_ | apply yb | refine yc rfl ?_))
    refine cond_p rfl (fun hlt => ?_) (fun hge => ?_)
    · (repeat (first | refine ya (by (with_reducible constructor) <;> first | rfl | decide) ?_ | apply yb | refine yc rfl ?_)); (refine aops_until (by simp (disch := first | exact List.all_nil | omega | (simp only [go_sem]; done) | (simp only [ln, List.length_map]; omega) | (repeat' first | assumption | exact Ext.refl _ | refine Ext.app ?_ _)) only [go_sem, hl.len, hl.idx, hl.load]; with_reducible rfl) ?_); (repeat (first | refine ya (by (with_reducible constructor) <;> first | rfl | decide) ?_ | apply yb | refine yc rfl ?_)); (refine aops_until (by simp (disch := first | exact List.all_nil | omega | (simp only [go_sem]; done) | (simp only [ln, List.length_map]; omega) | (repeat' first | assumption | exact Ext.refl _ | refine Ext.app ?_ _)) only [go_sem]; with_reducible rfl) ?_); (repeat (first | refine ya (by (with_reducible constructor) <;> first | rfl | decide) ?_ | apply yb | refine yc rfl ?_))
      refine cond_p rfl (fun hne => ?_) (fun heq => ?_)
      · (repeat (first | refine ya (by (with_reducible constructor) <;> first | rfl | decide) ?_ | apply yb | refine yc rfl ?_)); (refine aops_until (by simp (disch := first | exact List.all_nil | omega | (simp only [go_sem]; done) | (simp only [ln, List.length_map]; omega) | (repeat' first | assumption | exact Ext.refl _ | refine Ext.app ?_ _)) only [go_sem]; with_reducible rfl) ?_); (repeat (first | refine ya (by (with_reducible constructor) <;> first | rfl | decide) ?_ | apply yb | refine yc rfl ?_))
        refine fin_1 ⟨?_, rfl⟩
        unfold firstErr
        rw [find_at (d := 0) (i := i) (by omega) (fun j hj => by simpa using hp j hj) (by simpa using hne)]
        rfl
      · (repeat (first | refine ya (by (with_reducible constructor) <;> first | rfl | decide) ?_ | apply yb | refine yc rfl ?_)); (refine aops_until (by simp (disch := first | exact List.all_nil | omega | (simp only [go_sem]; done) | (simp only [ln, List.length_map]; omega) | (repeat' first | assumption | exact Ext.refl _ | refine Ext.app ?_ _)) only [go_sem]; with_reducible rfl) ?_); (repeat (first | refine ya (by (with_reducible constructor) <;> first | rfl | decide) ?_ | apply yb | refine yc rfl ?_))
        refine ⟨by omega, rfl, ?_, fun j hj => ?_⟩
        · simp [forget]
        · by_cases h : j = i
          · subst h; simpa using heq
          · exact hp j (by omega)
    · (repeat (first | refine ya (by (with_reducible constructor) <;> first | rfl | decide) ?_ | apply yb | refine yc rfl ?_)); (refine aops_until (by simp (disch := first | exact List.all_nil | omega | (simp only [go_sem]; done) | (simp only [ln, List.length_map]; omega) | (repeat' first | assumption | exact Ext.refl _ | refine Ext.app ?_ _)) only [go_sem]; with_reducible rfl) ?_); (repeat (first | refine ya (by (with_reducible constructor) <;> first | rfl | decide) ?_ | apply yb | refine yc rfl ?_))
      refine fin_1 ⟨?_, rfl⟩
      unfold firstErr
      rw [find_none (d := 0) (fun j hj => by simpa using hp j (by omega))]
      rfl
theorem isPosition_c (n : Int) : ACall Go.Proofs.Tryd.prog 135 [.int .i64 n] H fun v H' => v = .bool (decide (0 ≤ n ∧ n ≤ 1000000)) ∧ H' = H := by
  (refine a135 ?_; simp only [n135, List.replicate, List.length_cons, List.length_nil, List.cons_append, List.nil_append]; first | refine q1 ?_ | refine q2 ?_ | refine q6 ?_ | refine q7 ?_ | refine qh rfl ?_ | skip)
  ((repeat (first | refine ya (by (with_reducible constructor) <;> first | rfl | decide) ?_ | apply yb | refine yc rfl ?_ | ((first | apply yd | apply ye); simp (disch := first | exact List.all_nil | omega | (simp only [go_sem]; done) | (simp only [ln, List.length_map]; omega) | (repeat' first | assumption | exact Ext.refl _ | refine Ext.app ?_ _)) only [go_sem]; with_reducible rfl))))
  refine aops_call_to (swithin_c _ _ _) ?_
  ((repeat (first | refine ya (by (with_reducible constructor) <;> first | rfl | decide) ?_ | apply yb | refine yc rfl ?_ | ((first | apply yd | apply ye); simp (disch := first | exact List.all_nil | omega | (simp only [go_sem]; done) | (simp only [ln, List.length_map]; omega) | (repeat' first | assumption | exact Ext.refl _ | refine Ext.app ?_ _)) only [go_sem]; with_reducible rfl))))
  exact fin_1 ⟨rfl, rfl⟩
theorem isTime_c (n : Int) : ACall Go.Proofs.Tryd.prog 136 [.int .i64 n] H fun v H' => v = .bool (decide (0 ≤ n ∧ n ≤ 1000000000000)) ∧ H' = H := by
  (refine a136 ?_; simp only [n136, List.replicate, List.length_cons, List.length_nil, List.cons_append, List.nil_append]; first | refine q1 ?_ | refine q2 ?_ | refine q6 ?_ | refine q7 ?_ | refine qh rfl ?_ | skip)
  ((repeat (first | refine ya (by (with_reducible constructor) <;> first | rfl | decide) ?_ | apply yb | refine yc rfl ?_ | ((first | apply yd | apply ye); simp (disch := first | exact List.all_nil | omega | (simp only [go_sem]; done) | (simp only [ln, List.length_map]; omega) | (repeat' first | assumption | exact Ext.refl _ | refine Ext.app ?_ _)) only [go_sem]; with_reducible rfl))))
  refine aops_call_to (swithin_c _ _ _) ?_
  ((repeat (first | refine ya (by (with_reducible constructor) <;> first | rfl | decide) ?_ | apply yb | refine yc rfl ?_ | ((first | apply yd | apply ye); simp (disch := first | exact List.all_nil | omega | (simp only [go_sem]; done) | (simp only [ln, List.length_map]; omega) | (repeat' first | assumption | exact Ext.refl _ | refine Ext.app ?_ _)) only [go_sem]; with_reducible rfl))))
  exact fin_1 ⟨rfl, rfl⟩
theorem rIsPosition_c (n : Int) : ACall Go.Proofs.Tryd.prog 137 [.int .i64 n] H fun v H' => v = .bool (decide (0 ≤ n ∧ n ≤ 1000000)) ∧ H' = H := by
  (refine a137 ?_; simp only [n137, List.replicate, List.length_cons, List.length_nil, List.cons_append, List.nil_append]; first | refine q1 ?_ | refine q2 ?_ | refine q6 ?_ | refine q7 ?_ | refine qh rfl ?_ | skip)
  ((repeat (first | refine ya (by (with_reducible constructor) <;> first | rfl | decide) ?_ | apply yb | refine yc rfl ?_ | ((first | apply yd | apply ye); simp (disch := first | exact List.all_nil | omega | (simp only [go_sem]; done) | (simp only [ln, List.length_map]; omega) | (repeat' first | assumption | exact Ext.refl _ | refine Ext.app ?_ _)) only [go_sem]; with_reducible rfl))))
  refine aops_call_to (bwithin_c _ _ _) ?_
  ((repeat (first | refine ya (by (with_reducible constructor) <;> first | rfl | decide) ?_ | apply yb | refine yc rfl ?_ | ((first | apply yd | apply ye); simp (disch := first | exact List.all_nil | omega | (simp only [go_sem]; done) | (simp only [ln, List.length_map]; omega) | (repeat' first | assumption | exact Ext.refl _ | refine Ext.app ?_ _)) only [go_sem]; with_reducible rfl))))
  exact fin_1 ⟨rfl, rfl⟩
theorem rIsTick_c (n : Int) : ACall Go.Proofs.Tryd.prog 138 [.int .i64 n] H fun v H' => v = .bool (decide (0 ≤ n ∧ n ≤ 1000000000000)) ∧ H' = H := by
  (refine a138 ?_; simp only [n138, List.replicate, List.length_cons, List.length_nil, List.cons_append, List.nil_append]; first | refine q1 ?_ | refine q2 ?_ | refine q6 ?_ | refine q7 ?_ | refine qh rfl ?_ | skip)
  ((repeat (first | refine ya (by (with_reducible constructor) <;> first | rfl | decide) ?_ | apply yb | refine yc rfl ?_ | ((first | apply yd | apply ye); simp (disch := first | exact List.all_nil | omega | (simp only [go_sem]; done) | (simp only [ln, List.length_map]; omega) | (repeat' first | assumption | exact Ext.refl _ | refine Ext.app ?_ _)) only [go_sem]; with_reducible rfl))))
  refine aops_call_to (bwithin_c _ _ _) ?_
  ((repeat (first | refine ya (by (with_reducible constructor) <;> first | rfl | decide) ?_ | apply yb | refine yc rfl ?_ | ((first | apply yd | apply ye); simp (disch := first | exact List.all_nil | omega | (simp only [go_sem]; done) | (simp only [ln, List.length_map]; omega) | (repeat' first | assumption | exact Ext.refl _ | refine Ext.app ?_ _)) only [go_sem]; with_reducible rfl))))
  exact fin_1 ⟨rfl, rfl⟩
theorem Pairs.atom {l : List (Int × Int)} {v : Value} (h : Pairs H l v) : isAtom v = true := by
  rcases h.2 with ⟨rfl, _⟩ | ⟨id, off, c, rfl, _⟩ <;> rfl
theorem Pairs.box1 {l : List (Int × Int)} {v : Value} (h : Pairs H l v) {H' : AHeap} : boxR (.agg ⟨[v]⟩) H' = some (.pointer (some ⟨H'.length, 0, none⟩), H' ++ [.cells true 0 [v]]) :=
  box_agg (by simp [h.atom])
theorem n1_at {G : AHeap} {id : Nat} {a : Value} (h : G[id]? = some (.cells true 0 [a])) : loadNR 1 (.pointer (some ⟨id, 0, none⟩)) G = some (.agg ⟨[a]⟩, G) := loadN_at h (by simp)
theorem node_E {p n : Int × Int} : firstErr [(if decide ((0 ≤ n.1 ∧ n.1 ≤ 1000000) ∧ (0 ≤ n.2 ∧ n.2 ≤ 1000000000000)) = true then 0 else 2), (if decide (p.1 < n.1 ∧ p.2 < n.2) = true then 0 else 9)] = nodeE p n := by
  unfold nodeE
  simp only [decide_eq_true_eq]

set_option maxHeartbeats 4000000 in
theorem spCheckMap_c {l : List (Int × Int)} {v : Value} (hl : Pairs H l v) (hb : l.length ≤ 1000000000) : ACall Go.Proofs.Tryd.prog 97 [.agg ⟨[v]⟩] H fun w H' => w = .tuple #[.int .i64 (ckMap l).1, .int .i64 (ckMap l).2] ∧ H' = H := by
  refine ACall.drop (closed_two _ _) ?_
  (refine a97 ?_; simp only [n97, List.replicate, List.length_cons, List.length_nil, List.cons_append, List.nil_append]; first | refine q1 ?_ | refine q2 ?_ | refine q6 ?_ | refine q7 ?_ | refine qh rfl ?_ | skip)
  have g0 : (H ++ [AObj.cells true 0 [v]])[H.length]? = some (.cells true 0 [v]) := at_new
  have xG : Ext H (H ++ [AObj.cells true 0 [v]]) := (Ext.refl H).app _
  ((repeat (first | refine ya (by (with_reducible constructor) <;> first | rfl | decide) ?_ | apply yb | refine yc rfl ?_ | ((first | apply yd | apply ye); simp (disch := first | exact List.all_nil | omega | (simp only [go_sem]; done) | (simp only [ln, List.length_map]; omega) | (repeat' first | assumption | exact Ext.refl _ | refine Ext.app ?_ _)) only [go_sem, hl.box1]; with_reducible rfl))))
  generalize (H ++ [AObj.cells true 0 [v]] : AHeap) = G at g0 xG
  have hl1 := hl.ext xG
  ((repeat (first | refine ya (by (with_reducible constructor) <;> first | rfl | decide) ?_ | apply yb | refine yc rfl ?_ | ((first | apply yd | apply ye); simp (disch := first | exact List.all_nil | omega | (simp only [go_sem]; done) | (simp only [ln, List.length_map]; omega) | (repeat' first | assumption | exact Ext.refl _ | refine Ext.app ?_ _)) only [go_sem, hl1.len, hl1.idx, hl1.load, load_at g0]; with_reducible rfl))))
  refine adraw_call (N := []) (firstD (sunless_c _ _)) ?_
  rw [List.append_nil]
  ((repeat (first | refine ya (by (with_reducible constructor) <;> first | rfl | decide) ?_ | apply yb | refine yc rfl ?_ | ((first | apply yd | apply ye); simp (disch := first | exact List.all_nil | omega | (simp only [go_sem]; done) | (simp only [ln, List.length_map]; omega) | (repeat' first | assumption | exact Ext.refl _ | refine Ext.app ?_ _)) only [go_sem, hl1.len, hl1.idx, hl1.load, load_at g0]; with_reducible rfl))))
  refine adraw_call (N := []) (firstD (sunless_c _ _)) ?_
  rw [List.append_nil]
  ((repeat (first | refine ya (by (with_reducible constructor) <;> first | rfl | decide) ?_ | apply yb | refine yc rfl ?_ | ((first | apply yd | apply ye); simp (disch := first | exact List.all_nil | omega | (simp only [go_sem]; done) | (simp only [ln, List.length_map]; omega) | (repeat' first | assumption | exact Ext.refl _ | refine Ext.app ?_ _)) only [go_sem]; with_reducible rfl))))
  refine adraw_call (N := []) (firstD (sfirst_c (l := [_, _]) (Ints.last (l := [_, _]) 2) (by simp))) ?_
  rw [List.append_nil]
  by_cases h2 : l.length < 2
  · have ec : ckMap l = (0, 10) := by unfold ckMap; rw [if_pos h2]
    rw [ec]
    ((repeat (first | refine ya (by (with_reducible constructor) <;> first | rfl | decide) ?_ | apply yb | refine yc rfl ?_ | ((first | apply yd | apply ye); simp (disch := first | exact List.all_nil | omega | (simp only [go_sem]; done) | (simp only [ln, List.length_map]; omega) | (repeat' first | assumption | exact Ext.refl _ | refine Ext.app ?_ _)) only [go_sem, dec_f (show ¬ (2 : Int) ≤ (l.length : Int) by omega), ite_ft, firstErr_e (show (10 : Int) ≠ 0 by decide)]; with_reducible rfl))))
    refine cond_t rfl ?_
    ((repeat (first | refine ya (by (with_reducible constructor) <;> first | rfl | decide) ?_ | apply yb | refine yc rfl ?_ | ((first | apply yd | apply ye); simp (disch := first | exact List.all_nil | omega | (simp only [go_sem]; done) | (simp only [ln, List.length_map]; omega) | (repeat' first | assumption | exact Ext.refl _ | refine Ext.app ?_ _)) only [go_sem]; with_reducible rfl))))
    exact fin_2 ⟨rfl, xG.app _⟩
  by_cases h20 : 20 < l.length
  · have ec : ckMap l = (0, 8) := by unfold ckMap; rw [if_neg h2, if_pos h20]
    rw [ec]
    ((repeat (first | refine ya (by (with_reducible constructor) <;> first | rfl | decide) ?_ | apply yb | refine yc rfl ?_ | ((first | apply yd | apply ye); simp (disch := first | exact List.all_nil | omega | (simp only [go_sem]; done) | (simp only [ln, List.length_map]; omega) | (repeat' first | assumption | exact Ext.refl _ | refine Ext.app ?_ _)) only [go_sem, dec_t (show (2 : Int) ≤ (l.length : Int) by omega), dec_f (show ¬ (l.length : Int) ≤ 20 by omega), ite_tt, ite_ft, firstErr_z, firstErr_e (show (8 : Int) ≠ 0 by decide)]; with_reducible rfl))))
    refine cond_t rfl ?_
    ((repeat (first | refine ya (by (with_reducible constructor) <;> first | rfl | decide) ?_ | apply yb | refine yc rfl ?_ | ((first | apply yd | apply ye); simp (disch := first | exact List.all_nil | omega | (simp only [go_sem]; done) | (simp only [ln, List.length_map]; omega) | (repeat' first | assumption | exact Ext.refl _ | refine Ext.app ?_ _)) only [go_sem]; with_reducible rfl))))
    exact fin_2 ⟨rfl, xG.app _⟩
  have ec : ckMap l = ckGo (-1, -1) 0 l := by unfold ckMap; rw [if_neg h2, if_neg h20]
  ((repeat (first | refine ya (by (with_reducible constructor) <;> first | rfl | decide) ?_ | apply yb | refine yc rfl ?_ | ((first | apply yd | apply ye); simp (disch := first | exact List.all_nil | omega | (simp only [go_sem]; done) | (simp only [ln, List.length_map]; omega) | (repeat' first | assumption | exact Ext.refl _ | refine Ext.app ?_ _)) only [go_sem, dec_t (show (2 : Int) ≤ (l.length : Int) by omega), dec_t (show (l.length : Int) ≤ 20 by omega), ite_tt, firstErr_z, firstErr_nil]; with_reducible rfl))))
  refine cond_f rfl ?_
  have x2 : Ext G (G ++ [AObj.cells true 1 [.int .i64 0, .int .i64 0]]) := (Ext.refl G).app _
  generalize (G ++ [AObj.cells true 1 [.int .i64 0, .int .i64 0]] : AHeap) = G2 at x2
  have xH2 := xG.trans x2
  have hl2 := hl.ext xH2
  have k0 := at_app (N := [AObj.cells true 0 [.int .i64 (-1), .int .i64 (-1)]]) (x2.cell g0)
  have k5 : (G2 ++ [AObj.cells true 0 [.int .i64 (-1), .int .i64 (-1)]])[G2.length]? = some (.cells true 0 [.int .i64 (-1), .int .i64 (-1)]) := at_new
  have x3 : Ext G2 (G2 ++ [AObj.cells true 0 [.int .i64 (-1), .int .i64 (-1)]]) := (Ext.refl G2).app _
  have hl3 := hl2.ext x3
  ((repeat (first | refine ya (by (with_reducible constructor) <;> first | rfl | decide) ?_ | apply yb | refine yc rfl ?_ | ((first | apply yd | apply ye); simp (disch := first | exact List.all_nil | omega | (simp only [go_sem]; done) | (simp only [ln, List.length_map]; omega) | (repeat' first | assumption | exact Ext.refl _ | refine Ext.app ?_ _)) only [go_sem, hl3.len, hl3.idx, hl3.load, fill2i, store_new2, load_at k0]; with_reducible rfl))))
  have l3 : (G2 ++ [AObj.cells true 0 [.int .i64 (-1), .int .i64 (-1)]]).length = G2.length + 1 := by simp
  generalize (G2 ++ [AObj.cells true 0 [.int .i64 (-1), .int .i64 (-1)]] : AHeap) = G3 at k0 k5 x3 hl3 l3
  refine awp_loop_n [false, true, false, false, false, true, false, false, false, false, false, false, false, false, false, false, false, false, false, false, false, false, false, false, false, false, true, true, true, false, false, false, false, false, false, false, false, false, false, false, false, false, false, false, false, false, false, false, false, false, false, false, false, false, false, false, false, false, false, false, false, false, false] l.length (fun i e H' => e = [junk, .pointer (some ⟨H.length, 0, none⟩), junk, junk, junk, .pointer (some ⟨G2.length, 0, none⟩), junk, junk, junk, junk, junk, junk, junk, junk, junk, junk, junk, junk, junk, junk, junk, junk, junk, junk, junk, junk, v, .int .i64 (l.length : Nat), .int .i64 i, junk, junk, junk, junk, junk, junk, junk, junk, junk, junk, junk, junk, junk, junk, junk, junk, junk, junk, junk, junk, junk, junk, junk, junk, junk, junk, junk, junk, junk, junk, junk, junk, junk, junk] ∧ Keeps G2.length G3 H' ∧ H'[G2.length]? = some (.cells true 0 [.int .i64 (prevAt l i).1, .int .i64 (prevAt l i).2]) ∧ ∀ j, j < i → nodeE (prevAt l j) (l.getD j (0, 0)) = 0) ?_ ?_
  · exact ⟨by simp [forget], Keeps.of_ext (Ext.refl _), k5, fun j hj => by omega⟩
  rintro i e H' hi ⟨rfl, hK, b5, hj⟩
  have xK := hK.ext x3 (Nat.le_refl _)
  have xK2 := xH2.trans xK
  have hll := hl.ext xK2
  have ec2 := ckGo_from hj hi
  rw [← ec] at ec2
  ((repeat (first | refine ya (by (with_reducible constructor) <;> first | rfl | decide) ?_ | apply yb | refine yc rfl ?_ | ((first | apply yd | apply ye); simp (disch := first | exact List.all_nil | omega | (simp only [go_sem]; done) | (simp only [ln, List.length_map]; omega) | (repeat' first | assumption | exact Ext.refl _ | refine Ext.app ?_ _)) only [go_sem]; with_reducible rfl))))
  refine cond_p rfl (fun hlt => ?_) (fun hge => ?_)
  rotate_left 1
  · obtain rfl : i = l.length := by omega
    rw [ckGo_end] at ec2
    ((repeat (first | refine ya (by (with_reducible constructor) <;> first | rfl | decide) ?_ | apply yb | refine yc rfl ?_ | ((first | apply yd | apply ye); simp (disch := first | exact List.all_nil | omega | (simp only [go_sem]; done) | (simp only [ln, List.length_map]; omega) | (repeat' first | assumption | exact Ext.refl _ | refine Ext.app ?_ _)) only [go_sem]; with_reducible rfl))))
    exact fin_2 ⟨by rw [ec2]; rfl, xK2⟩
  have hi' : i < l.length := by omega
  have e1 : (G2 ++ ([] : AHeap)).length = G2.length := by simp
  (repeat (first | refine ya (by (with_reducible constructor) <;> first | rfl | decide) ?_ | (apply yd; simp (disch := first | exact List.all_nil | omega | (simp only [go_sem]; done) | (simp only [ln, List.length_map]; omega) | (repeat' first | assumption | exact Ext.refl _ | refine Ext.app ?_ _)) only [go_sem, hll.len, hll.idx, hll.load, store_new2]; with_reducible rfl)))
  have b7 : (H' ++ [AObj.cells true 0 [.int .i64 (l.getD i (0, 0)).1, .int .i64 (l.getD i (0, 0)).2]])[H'.length]? = some (.cells true 0 [.int .i64 (l.getD i (0, 0)).1, .int .i64 (l.getD i (0, 0)).2]) := at_new
  have b5 := at_app (N := [AObj.cells true 0 [.int .i64 (l.getD i (0, 0)).1, .int .i64 (l.getD i (0, 0)).2]]) b5
  have hK := hK.app [AObj.cells true 0 [.int .i64 (l.getD i (0, 0)).1, .int .i64 (l.getD i (0, 0)).2]]
  have xK2 := xK2.app [AObj.cells true 0 [.int .i64 (l.getD i (0, 0)).1, .int .i64 (l.getD i (0, 0)).2]]
  have l7 := hK.1
  generalize (H' ++ [AObj.cells true 0 [.int .i64 (l.getD i (0, 0)).1, .int .i64 (l.getD i (0, 0)).2]] : AHeap) = H1 at b7 b5 hK xK2 l7
  refine awp_mid [false, true, false, false, false, true, true, true, true, false, false, false, false, false, false, false, false, false, false, false, false, false, false, false, false, false, true, true, true, false, false, false, false, false, false, false, false, false, false, false, false, false, false, false, false, false, false, false, false, false, false, false, false, false, false, false, false, false, false, false, false, false, false] (fun e J => (∃ N, J = H1 ++ N) ∧ e = [junk, .pointer (some ⟨H.length, 0, none⟩), junk, junk, junk, .pointer (some ⟨G2.length, 0, none⟩), .int .i64 i, .pointer (some ⟨H'.length, 0, none⟩), .int .i64 (nodeE (prevAt l i) (l.getD i (0, 0))), junk, junk, junk, junk, junk, junk, junk, junk, junk, junk, junk, junk, junk, junk, junk, junk, junk, v, .int .i64 (l.length : Nat), .int .i64 i, junk, junk, junk, junk, junk, junk, junk, junk, junk, junk, junk, junk, junk, junk, junk, junk, junk, junk, junk, junk, junk, junk, junk, junk, junk, junk, junk, junk, junk, junk, junk, junk, junk, junk]) ?_ ?_
  · generalize l.getD i (0, 0) = n at *
    generalize prevAt l i = p at *
    ((repeat (first | refine ya (by (with_reducible constructor) <;> first | rfl | decide) ?_ | apply yb | refine yc rfl ?_ | ((first | apply yd | apply ye); simp (disch := first | exact List.all_nil | omega | (simp only [go_sem]; done) | (simp only [ln, List.length_map]; omega) | (repeat' first | assumption | exact Ext.refl _ | refine Ext.app ?_ _)) only [go_sem, load_at b7]; with_reducible rfl))))
    refine adraw_call (N := []) (firstD (isPosition_c _)) ?_
    rw [List.append_nil]
    by_cases hp : 0 ≤ n.1 ∧ n.1 ≤ 1000000
    · ((repeat (first | refine ya (by (with_reducible constructor) <;> first | rfl | decide) ?_ | apply yb | refine yc rfl ?_ | ((first | apply yd | apply ye); simp (disch := first | exact List.all_nil | omega | (simp only [go_sem]; done) | (simp only [ln, List.length_map]; omega) | (repeat' first | assumption | exact Ext.refl _ | refine Ext.app ?_ _)) only [go_sem, dec_t hp, load_at b7]; with_reducible rfl))))
      refine adraw_call (N := []) (firstD (isTime_c _)) ?_
      rw [List.append_nil]
      ((repeat (first | refine ya (by (with_reducible constructor) <;> first | rfl | decide) ?_ | apply yb | refine yc rfl ?_ | ((first | apply yd | apply ye); simp (disch := first | exact List.all_nil | omega | (simp only [go_sem]; done) | (simp only [ln, List.length_map]; omega) | (repeat' first | assumption | exact Ext.refl _ | refine Ext.app ?_ _)) only [go_sem, dec_t hp]; with_reducible rfl))))
      refine adraw_call (N := []) (firstD (sunless_c _ _)) ?_
      rw [List.append_nil]
      by_cases hq : p.1 < n.1
      · ((repeat (first | refine ya (by (with_reducible constructor) <;> first | rfl | decide) ?_ | apply yb | refine yc rfl ?_ | ((first | apply yd | apply ye); simp (disch := first | exact List.all_nil | omega | (simp only [go_sem]; done) | (simp only [ln, List.length_map]; omega) | (repeat' first | assumption | exact Ext.refl _ | refine Ext.app ?_ _)) only [go_sem, load_at b7, load_at b5, dec_t hq]; with_reducible rfl))))
        refine adraw_call (N := []) (firstD (sunless_c _ _)) ?_
        rw [List.append_nil]
        ((repeat (first | refine ya (by (with_reducible constructor) <;> first | rfl | decide) ?_ | apply yb | refine yc rfl ?_ | ((first | apply yd | apply ye); simp (disch := first | exact List.all_nil | omega | (simp only [go_sem]; done) | (simp only [ln, List.length_map]; omega) | (repeat' first | assumption | exact Ext.refl _ | refine Ext.app ?_ _)) only [go_sem, dec_t hq]; with_reducible rfl))))
        refine adraw_call (N := []) (firstD (sfirst_c (l := [_, _]) (Ints.last (l := [_, _]) 2) (by simp))) ?_
        rw [List.append_nil]
        ((repeat (first | refine ya (by (with_reducible constructor) <;> first | rfl | decide) ?_ | apply yb | refine yc rfl ?_ | ((first | apply yd | apply ye); simp (disch := first | exact List.all_nil | omega | (simp only [go_sem]; done) | (simp only [ln, List.length_map]; omega) | (repeat' first | assumption | exact Ext.refl _ | refine Ext.app ?_ _)) only [go_sem]; with_reducible rfl))))
        refine ⟨rfl, ⟨_, rfl⟩, ?_⟩
        first | (simp [forget, ← node_E, hp, hq]; done) | simp [forget, ← node_E, hp, hq, firstErr]
      · ((repeat (first | refine ya (by (with_reducible constructor) <;> first | rfl | decide) ?_ | apply yb | refine yc rfl ?_ | ((first | apply yd | apply ye); simp (disch := first | exact List.all_nil | omega | (simp only [go_sem]; done) | (simp only [ln, List.length_map]; omega) | (repeat' first | assumption | exact Ext.refl _ | refine Ext.app ?_ _)) only [go_sem, load_at b7, load_at b5, dec_f hq]; with_reducible rfl))))
        refine adraw_call (N := []) (firstD (sunless_c _ _)) ?_
        rw [List.append_nil]
        ((repeat (first | refine ya (by (with_reducible constructor) <;> first | rfl | decide) ?_ | apply yb | refine yc rfl ?_ | ((first | apply yd | apply ye); simp (disch := first | exact List.all_nil | omega | (simp only [go_sem]; done) | (simp only [ln, List.length_map]; omega) | (repeat' first | assumption | exact Ext.refl _ | refine Ext.app ?_ _)) only [go_sem, dec_f hq]; with_reducible rfl))))
        refine adraw_call (N := []) (firstD (sfirst_c (l := [_, _]) (Ints.last (l := [_, _]) 2) (by simp))) ?_
        rw [List.append_nil]
        ((repeat (first | refine ya (by (with_reducible constructor) <;> first | rfl | decide) ?_ | apply yb | refine yc rfl ?_ | ((first | apply yd | apply ye); simp (disch := first | exact List.all_nil | omega | (simp only [go_sem]; done) | (simp only [ln, List.length_map]; omega) | (repeat' first | assumption | exact Ext.refl _ | refine Ext.app ?_ _)) only [go_sem]; with_reducible rfl))))
        refine ⟨rfl, ⟨_, rfl⟩, ?_⟩
        first | (simp [forget, ← node_E, hp, hq]; done) | simp [forget, ← node_E, hp, hq, firstErr]
    · ((repeat (first | refine ya (by (with_reducible constructor) <;> first | rfl | decide) ?_ | apply yb | refine yc rfl ?_ | ((first | apply yd | apply ye); simp (disch := first | exact List.all_nil | omega | (simp only [go_sem]; done) | (simp only [ln, List.length_map]; omega) | (repeat' first | assumption | exact Ext.refl _ | refine Ext.app ?_ _)) only [go_sem, dec_f hp]; with_reducible rfl))))
      refine adraw_call (N := []) (firstD (sunless_c _ _)) ?_
      rw [List.append_nil]
      by_cases hq : p.1 < n.1
      · ((repeat (first | refine ya (by (with_reducible constructor) <;> first | rfl | decide) ?_ | apply yb | refine yc rfl ?_ | ((first | apply yd | apply ye); simp (disch := first | exact List.all_nil | omega | (simp only [go_sem]; done) | (simp only [ln, List.length_map]; omega) | (repeat' first | assumption | exact Ext.refl _ | refine Ext.app ?_ _)) only [go_sem, load_at b7, load_at b5, dec_t hq]; with_reducible rfl))))
        refine adraw_call (N := []) (firstD (sunless_c _ _)) ?_
        rw [List.append_nil]
        ((repeat (first | refine ya (by (with_reducible constructor) <;> first | rfl | decide) ?_ | apply yb | refine yc rfl ?_ | ((first | apply yd | apply ye); simp (disch := first | exact List.all_nil | omega | (simp only [go_sem]; done) | (simp only [ln, List.length_map]; omega) | (repeat' first | assumption | exact Ext.refl _ | refine Ext.app ?_ _)) only [go_sem, dec_t hq]; with_reducible rfl))))
        refine adraw_call (N := []) (firstD (sfirst_c (l := [_, _]) (Ints.last (l := [_, _]) 2) (by simp))) ?_
        rw [List.append_nil]
        ((repeat (first | refine ya (by (with_reducible constructor) <;> first | rfl | decide) ?_ | apply yb | refine yc rfl ?_ | ((first | apply yd | apply ye); simp (disch := first | exact List.all_nil | omega | (simp only [go_sem]; done) | (simp only [ln, List.length_map]; omega) | (repeat' first | assumption | exact Ext.refl _ | refine Ext.app ?_ _)) only [go_sem]; with_reducible rfl))))
        refine ⟨rfl, ⟨_, rfl⟩, ?_⟩
        first | (simp [forget, ← node_E, hp, hq]; done) | simp [forget, ← node_E, hp, hq, firstErr]
      · ((repeat (first | refine ya (by (with_reducible constructor) <;> first | rfl | decide) ?_ | apply yb | refine yc rfl ?_ | ((first | apply yd | apply ye); simp (disch := first | exact List.all_nil | omega | (simp only [go_sem]; done) | (simp only [ln, List.length_map]; omega) | (repeat' first | assumption | exact Ext.refl _ | refine Ext.app ?_ _)) only [go_sem, load_at b7, load_at b5, dec_f hq]; with_reducible rfl))))
        refine adraw_call (N := []) (firstD (sunless_c _ _)) ?_
        rw [List.append_nil]
        ((repeat (first | refine ya (by (with_reducible constructor) <;> first | rfl | decide) ?_ | apply yb | refine yc rfl ?_ | ((first | apply yd | apply ye); simp (disch := first | exact List.all_nil | omega | (simp only [go_sem]; done) | (simp only [ln, List.length_map]; omega) | (repeat' first | assumption | exact Ext.refl _ | refine Ext.app ?_ _)) only [go_sem, dec_f hq]; with_reducible rfl))))
        refine adraw_call (N := []) (firstD (sfirst_c (l := [_, _]) (Ints.last (l := [_, _]) 2) (by simp))) ?_
        rw [List.append_nil]
        ((repeat (first | refine ya (by (with_reducible constructor) <;> first | rfl | decide) ?_ | apply yb | refine yc rfl ?_ | ((first | apply yd | apply ye); simp (disch := first | exact List.all_nil | omega | (simp only [go_sem]; done) | (simp only [ln, List.length_map]; omega) | (repeat' first | assumption | exact Ext.refl _ | refine Ext.app ?_ _)) only [go_sem]; with_reducible rfl))))
        refine ⟨rfl, ⟨_, rfl⟩, ?_⟩
        first | (simp [forget, ← node_E, hp, hq]; done) | simp [forget, ← node_E, hp, hq, firstErr]
  rintro e J ⟨⟨N, rfl⟩, rfl⟩
  have b7 := at_app (N := N) b7
  have b5 := at_app (N := N) b5
  have hK := hK.app N
  have xK2 := xK2.app N
  by_cases he : nodeE (prevAt l i) (l.getD i (0, 0)) = 0
  · ((repeat (first | refine ya (by (with_reducible constructor) <;> first | rfl | decide) ?_ | apply yb | refine yc rfl ?_ | ((first | apply yd | apply ye); simp (disch := first | exact List.all_nil | omega | (simp only [go_sem]; done) | (simp only [ln, List.length_map]; omega) | (repeat' first | assumption | exact Ext.refl _ | refine Ext.app ?_ _)) only [go_sem, dec_f (show ¬ nodeE (prevAt l i) (l.getD i (0, 0)) ≠ 0 by rw [he]; simp)]; with_reducible rfl))))
    refine cond_f rfl ?_
    ((repeat (first | refine ya (by (with_reducible constructor) <;> first | rfl | decide) ?_ | apply yb | refine yc rfl ?_ | ((first | apply yd | apply ye); simp (disch := first | exact List.all_nil | omega | (simp only [go_sem]; done) | (simp only [ln, List.length_map]; omega) | (repeat' first | assumption | exact Ext.refl _ | refine Ext.app ?_ _)) only [go_sem, n2_at b7, store_b2 b5]; with_reducible rfl))))
    refine ⟨by omega, by simp [forget], hK.set (.inl rfl) _, ?_, fun j hj2 => ?_⟩
    · rw [prevAt_succ]; exact get_set_self b5
    · by_cases e : j = i
      · subst e; exact he
      · exact hj j (by omega)
  · rw [ckGo_at hi', if_pos he] at ec2
    ((repeat (first | refine ya (by (with_reducible constructor) <;> first | rfl | decide) ?_ | apply yb | refine yc rfl ?_ | ((first | apply yd | apply ye); simp (disch := first | exact List.all_nil | omega | (simp only [go_sem]; done) | (simp only [ln, List.length_map]; omega) | (repeat' first | assumption | exact Ext.refl _ | refine Ext.app ?_ _)) only [go_sem, dec_t (show nodeE (prevAt l i) (l.getD i (0, 0)) ≠ 0 from he)]; with_reducible rfl))))
    refine cond_t rfl ?_
    ((repeat (first | refine ya (by (with_reducible constructor) <;> first | rfl | decide) ?_ | apply yb | refine yc rfl ?_ | ((first | apply yd | apply ye); simp (disch := first | exact List.all_nil | omega | (simp only [go_sem]; done) | (simp only [ln, List.length_map]; omega) | (repeat' first | assumption | exact Ext.refl _ | refine Ext.app ?_ _)) only [go_sem]; with_reducible rfl))))
    exact fin_2 ⟨by rw [ec2]; rfl, xK2⟩
end
end Go.Lq

namespace Go.Lq
open Go
open Go.Proofs

section
variable {H : AHeap}
set_option maxHeartbeats 4000000 in
theorem spMapErr_c {l : List (Int × Int)} {s v : Value} (hv : Sl H 1 1 [s] v) (hl : Pairs H l s) (hb : l.length ≤ 1000000000) : ACall Go.Proofs.Tryd.prog 106 [v] H fun w H' => w = .int .i64 (mapErrL l) ∧ H' = H := by
  refine ACall.drop (.int _ _) ?_
  (refine a106 ?_; simp only [n106, List.replicate, List.length_cons, List.length_nil, List.cons_append, List.nil_append]; first | refine q1 ?_ | refine q2 ?_ | refine q6 ?_ | refine q7 ?_ | refine qh rfl ?_ | skip)
  ((repeat (first | refine ya (by (with_reducible constructor) <;> first | rfl | decide) ?_ | apply yb | refine yc rfl ?_ | ((first | apply yd | apply ye); simp (disch := first | exact List.all_nil | omega | (simp only [go_sem]; done) | (simp only [ln, List.length_map]; omega) | (repeat' first | assumption | exact Ext.refl _ | refine Ext.app ?_ _)) only [go_sem, hv.len]; with_reducible rfl))))
  refine awp_loop_n [false, false, false, false, false, false, false, true, true, true, false, false, false, false, false, false, false, false, false, false, false, false] 1 (fun i e H' => Ext H H' ∧ (i = 1 → mapErrL l = 0) ∧ e = [junk, junk, junk, junk, junk, junk, junk, v, .int .i64 ((1 : Nat) : Int), .int .i64 i, junk, junk, junk, junk, junk, junk, junk, junk, junk, junk, junk, junk]) ?_ ?_
  · exact ⟨Ext.refl _, fun h => by omega, by simp [forget]⟩
  rintro i e H' hi ⟨x1, hz, rfl⟩
  ((repeat (first | refine ya (by (with_reducible constructor) <;> first | rfl | decide) ?_ | apply yb | refine yc rfl ?_ | ((first | apply yd | apply ye); simp (disch := first | exact List.all_nil | omega | (simp only [go_sem]; done) | (simp only [ln, List.length_map]; omega) | (repeat' first | assumption | exact Ext.refl _ | refine Ext.app ?_ _)) only [go_sem]; with_reducible rfl))))
  refine cond_p rfl (fun hlt => ?_) (fun hge => ?_)
  rotate_left 1
  · obtain rfl : i = 1 := by omega
    ((repeat (first | refine ya (by (with_reducible constructor) <;> first | rfl | decide) ?_ | apply yb | refine yc rfl ?_ | ((first | apply yd | apply ye); simp (disch := first | exact List.all_nil | omega | (simp only [go_sem]; done) | (simp only [ln, List.length_map]; omega) | (repeat' first | assumption | exact Ext.refl _ | refine Ext.app ?_ _)) only [go_sem]; with_reducible rfl))))
    exact fin_1 ⟨by rw [hz rfl]; rfl, x1⟩
  obtain rfl : i = 0 := by omega
  have h1 : ∀ J : AHeap, idxR 1 v (.int .i64 ((0 : Nat) : Int)) J = some (addrOf v 0, J) := fun J => by
    have := hv.idx (i := 0) (k := .i64) (H' := J) (by omega) (by omega)
    simpa using this
  have h2 : loadNR 1 (addrOf v 0) H' = some (.agg ⟨[s]⟩, H') := by
    have := Sl.loadN (k := 0) (m := 1) hv x1 (by omega) (by omega)
    simpa using this
  have hst : storeR 1 (.pointer (some ⟨H'.length, 0, none⟩)) (.agg ⟨[s]⟩) (H' ++ [AObj.cells true 0 [.slice none 0 0]]) = some (undef, H' ++ [AObj.cells true 0 [s]]) := store_newN (by simp [hl.atom]) rfl rfl
  have b4 : (H' ++ [AObj.cells true 0 [s]])[H'.length]? = some (.cells true 0 [s]) := at_new
  have x2 := x1.app [AObj.cells true 0 [s]]
  ((repeat (first | refine ya (by (with_reducible constructor) <;> first | rfl | decide) ?_ | apply yb | refine yc rfl ?_ | ((first | apply yd | apply ye); simp (disch := first | exact List.all_nil | omega | (simp only [go_sem]; done) | (simp only [ln, List.length_map]; omega) | (repeat' first | assumption | exact Ext.refl _ | refine Ext.app ?_ _)) only [go_sem, h1, h2, hst, n1_at b4]; with_reducible rfl))))
  refine aops_call_to (spCheckMap_c (hl.ext x2) hb) ?_
  ((repeat (first | refine ya (by (with_reducible constructor) <;> first | rfl | decide) ?_ | apply yb | refine yc rfl ?_ | ((first | apply yd | apply ye); simp (disch := first | exact List.all_nil | omega | (simp only [go_sem]; done) | (simp only [ln, List.length_map]; omega) | (repeat' first | assumption | exact Ext.refl _ | refine Ext.app ?_ _)) only [go_sem]; with_reducible rfl))))
  refine cond_p rfl (fun hne => ?_) (fun heq => ?_)
  · ((repeat (first | refine ya (by (with_reducible constructor) <;> first | rfl | decide) ?_ | apply yb | refine yc rfl ?_ | ((first | apply yd | apply ye); simp (disch := first | exact List.all_nil | omega | (simp only [go_sem]; done) | (simp only [ln, List.length_map]; omega) | (repeat' first | assumption | exact Ext.refl _ | refine Ext.app ?_ _)) only [go_sem]; with_reducible rfl))))
    exact fin_1 ⟨rfl, x2⟩
  · ((repeat (first | refine ya (by (with_reducible constructor) <;> first | rfl | decide) ?_ | apply yb | refine yc rfl ?_ | ((first | apply yd | apply ye); simp (disch := first | exact List.all_nil | omega | (simp only [go_sem]; done) | (simp only [ln, List.length_map]; omega) | (repeat' first | assumption | exact Ext.refl _ | refine Ext.app ?_ _)) only [go_sem]; with_reducible rfl))))
    exact ⟨by omega, x2, fun _ => Decidable.not_not.1 heq, by simp [forget]⟩

set_option maxHeartbeats 4000000 in
theorem rCheckMap_c {l : List (Int × Int)} {v : Value} (hl : Pairs H l v) (hb : l.length ≤ 1000000000) : ACall Go.Proofs.Tryd.prog 105 [.agg ⟨[v]⟩] H fun w H' => w = .tuple #[.int .i64 (ckMap l).1, .int .i64 (ckMap l).2] ∧ H' = H := by
  refine ACall.drop (closed_two _ _) ?_
  (refine a105 ?_; simp only [n105, List.replicate, List.length_cons, List.length_nil, List.cons_append, List.nil_append]; first | refine q1 ?_ | refine q2 ?_ | refine q6 ?_ | refine q7 ?_ | refine qh rfl ?_ | skip)
  have g0 : (H ++ [AObj.cells true 0 [v]])[H.length]? = some (.cells true 0 [v]) := at_new
  have xG : Ext H (H ++ [AObj.cells true 0 [v]]) := (Ext.refl H).app _
  ((repeat (first | refine ya (by (with_reducible constructor) <;> first | rfl | decide) ?_ | apply yb | refine yc rfl ?_ | ((first | apply yd | apply ye); simp (disch := first | exact List.all_nil | omega | (simp only [go_sem]; done) | (simp only [ln, List.length_map]; omega) | (repeat' first | assumption | exact Ext.refl _ | refine Ext.app ?_ _)) only [go_sem, hl.box1]; with_reducible rfl))))
  generalize (H ++ [AObj.cells true 0 [v]] : AHeap) = G at g0 xG
  have hl1 := hl.ext xG
  by_cases h2 : l.length < 2
  · have ec : ckMap l = (0, 10) := by unfold ckMap; rw [if_pos h2]
    rw [ec]
    ((repeat (first | refine ya (by (with_reducible constructor) <;> first | rfl | decide) ?_ | apply yb | refine yc rfl ?_ | ((first | apply yd | apply ye); simp (disch := first | exact List.all_nil | omega | (simp only [go_sem]; done) | (simp only [ln, List.length_map]; omega) | (repeat' first | assumption | exact Ext.refl _ | refine Ext.app ?_ _)) only [go_sem, hl1.len, hl1.idx, hl1.load, load_at g0, dec_t (show (l.length : Int) < 2 by omega)]; with_reducible rfl))))
    refine cond_t rfl ?_
    ((repeat (first | refine ya (by (with_reducible constructor) <;> first | rfl | decide) ?_ | apply yb | refine yc rfl ?_ | ((first | apply yd | apply ye); simp (disch := first | exact List.all_nil | omega | (simp only [go_sem]; done) | (simp only [ln, List.length_map]; omega) | (repeat' first | assumption | exact Ext.refl _ | refine Ext.app ?_ _)) only [go_sem]; with_reducible rfl))))
    exact fin_2 ⟨rfl, xG⟩
  ((repeat (first | refine ya (by (with_reducible constructor) <;> first | rfl | decide) ?_ | apply yb | refine yc rfl ?_ | ((first | apply yd | apply ye); simp (disch := first | exact List.all_nil | omega | (simp only [go_sem]; done) | (simp only [ln, List.length_map]; omega) | (repeat' first | assumption | exact Ext.refl _ | refine Ext.app ?_ _)) only [go_sem, hl1.len, hl1.idx, hl1.load, load_at g0, dec_f (show ¬ (l.length : Int) < 2 by omega)]; with_reducible rfl))))
  refine cond_f rfl ?_
  by_cases h20 : 20 < l.length
  · have ec : ckMap l = (0, 8) := by unfold ckMap; rw [if_neg h2, if_pos h20]
    rw [ec]
    ((repeat (first | refine ya (by (with_reducible constructor) <;> first | rfl | decide) ?_ | apply yb | refine yc rfl ?_ | ((first | apply yd | apply ye); simp (disch := first | exact List.all_nil | omega | (simp only [go_sem]; done) | (simp only [ln, List.length_map]; omega) | (repeat' first | assumption | exact Ext.refl _ | refine Ext.app ?_ _)) only [go_sem, hl1.len, hl1.idx, hl1.load, load_at g0, dec_t (show (20 : Int) < (l.length : Int) by omega)]; with_reducible rfl))))
    refine cond_t rfl ?_
    ((repeat (first | refine ya (by (with_reducible constructor) <;> first | rfl | decide) ?_ | apply yb | refine yc rfl ?_ | ((first | apply yd | apply ye); simp (disch := first | exact List.all_nil | omega | (simp only [go_sem]; done) | (simp only [ln, List.length_map]; omega) | (repeat' first | assumption | exact Ext.refl _ | refine Ext.app ?_ _)) only [go_sem]; with_reducible rfl))))
    exact fin_2 ⟨rfl, xG⟩
  have ec : ckMap l = ckGo (-1, -1) 0 l := by unfold ckMap; rw [if_neg h2, if_neg h20]
  ((repeat (first | refine ya (by (with_reducible constructor) <;> first | rfl | decide) ?_ | apply yb | refine yc rfl ?_ | ((first | apply yd | apply ye); simp (disch := first | exact List.all_nil | omega | (simp only [go_sem]; done) | (simp only [ln, List.length_map]; omega) | (repeat' first | assumption | exact Ext.refl _ | refine Ext.app ?_ _)) only [go_sem, hl1.len, hl1.idx, hl1.load, load_at g0, dec_f (show ¬ (20 : Int) < (l.length : Int) by omega)]; with_reducible rfl))))
  refine cond_f rfl ?_
  ((repeat (first | refine ya (by (with_reducible constructor) <;> first | rfl | decide) ?_ | apply yb | refine yc rfl ?_ | ((first | apply yd | apply ye); simp (disch := first | exact List.all_nil | omega | (simp only [go_sem]; done) | (simp only [ln, List.length_map]; omega) | (repeat' first | assumption | exact Ext.refl _ | refine Ext.app ?_ _)) only [go_sem]; with_reducible rfl))))
  refine awp_loop_n [false, true, false, false, true, false, false, false, false, false, false, false, false, false, false, false, false, false, false, false, false, false, false, false, false, false, false, false, false, false, false, false, false, false, false, false, false, false, false, false, false, false, false, false, false, false, false, false, false, false, false, false, false, false, false, false, false, false, false, false, false, false, false, false] l.length (fun i e H' => Ext G H' ∧ e = [junk, .pointer (some ⟨H.length, 0, none⟩), junk, junk, .int .i64 i, junk, junk, junk, junk, junk, junk, junk, junk, junk, junk, junk, junk, junk, junk, junk, junk, junk, junk, junk, junk, junk, junk, junk, junk, junk, junk, junk, junk, junk, junk, junk, junk, junk, junk, junk, junk, junk, junk, junk, junk, junk, junk, junk, junk, junk, junk, junk, junk, junk, junk, junk, junk, junk, junk, junk, junk, junk, junk, junk] ∧ ∀ j, j < i → nodeE (prevAt l j) (l.getD j (0, 0)) = 0) ?_ ?_
  · exact ⟨Ext.refl _, by simp [forget], fun j hj => by omega⟩
  rintro i e H' hi ⟨x1, rfl, hj⟩
  have xK2 := xG.trans x1
  have hll := hl.ext xK2
  have b0 := x1.cell g0
  have ec2 := ckGo_from hj hi
  rw [← ec] at ec2
  ((repeat (first | refine ya (by (with_reducible constructor) <;> first | rfl | decide) ?_ | apply yb | refine yc rfl ?_ | ((first | apply yd | apply ye); simp (disch := first | exact List.all_nil | omega | (simp only [go_sem]; done) | (simp only [ln, List.length_map]; omega) | (repeat' first | assumption | exact Ext.refl _ | refine Ext.app ?_ _)) only [go_sem, hll.len, hll.idx, hll.load, load_at b0]; with_reducible rfl))))
  refine cond_p rfl (fun hlt => ?_) (fun hge => ?_)
  rotate_left 1
  · obtain rfl : i = l.length := by omega
    rw [ckGo_end] at ec2
    ((repeat (first | refine ya (by (with_reducible constructor) <;> first | rfl | decide) ?_ | apply yb | refine yc rfl ?_ | ((first | apply yd | apply ye); simp (disch := first | exact List.all_nil | omega | (simp only [go_sem]; done) | (simp only [ln, List.length_map]; omega) | (repeat' first | assumption | exact Ext.refl _ | refine Ext.app ?_ _)) only [go_sem]; with_reducible rfl))))
    exact fin_2 ⟨by rw [ec2]; rfl, xK2⟩
  have hi' : i < l.length := by omega
  rw [ckGo_at hi'] at ec2
  have b7 : (H' ++ [AObj.cells true 0 [.int .i64 (l.getD i (0, 0)).1, .int .i64 (l.getD i (0, 0)).2]])[H'.length]? = some (.cells true 0 [.int .i64 (l.getD i (0, 0)).1, .int .i64 (l.getD i (0, 0)).2]) := at_new
  have b0' := at_app (N := [AObj.cells true 0 [.int .i64 (l.getD i (0, 0)).1, .int .i64 (l.getD i (0, 0)).2]]) b0
  have x1' := x1.app [AObj.cells true 0 [.int .i64 (l.getD i (0, 0)).1, .int .i64 (l.getD i (0, 0)).2]]
  have xK3 := xG.trans x1'
  have hl3 := hl.ext xK3
  ((repeat (first | refine ya (by (with_reducible constructor) <;> first | rfl | decide) ?_ | apply yb | refine yc rfl ?_ | ((first | apply yd | apply ye); simp (disch := first | exact List.all_nil | omega | (simp only [go_sem]; done) | (simp only [ln, List.length_map]; omega) | (repeat' first | assumption | exact Ext.refl _ | refine Ext.app ?_ _)) only [go_sem, hll.len, hll.idx, hll.load, load_at b0, store_new2, load_at b7]; with_reducible rfl))))
  generalize (H' ++ [AObj.cells true 0 [.int .i64 (l.getD i (0, 0)).1, .int .i64 (l.getD i (0, 0)).2]] : AHeap) = H1 at b7 b0' x1' xK3 hl3
  refine aops_call_to (rIsPosition_c _) ?_
  by_cases hp : 0 ≤ (l.getD i (0, 0)).1 ∧ (l.getD i (0, 0)).1 ≤ 1000000
  rotate_left 1
  · rw [nodeE_r (fun h => hp h.1), if_pos (by decide)] at ec2
    ((repeat (first | refine ya (by (with_reducible constructor) <;> first | rfl | decide) ?_ | apply yb | refine yc rfl ?_ | ((first | apply yd | apply ye); simp (disch := first | exact List.all_nil | omega | (simp only [go_sem]; done) | (simp only [ln, List.length_map]; omega) | (repeat' first | assumption | exact Ext.refl _ | refine Ext.app ?_ _)) only [go_sem, dec_f hp]; with_reducible rfl))))
    refine cond_t rfl ?_
    ((repeat (first | refine ya (by (with_reducible constructor) <;> first | rfl | decide) ?_ | apply yb | refine yc rfl ?_ | ((first | apply yd | apply ye); simp (disch := first | exact List.all_nil | omega | (simp only [go_sem]; done) | (simp only [ln, List.length_map]; omega) | (repeat' first | assumption | exact Ext.refl _ | refine Ext.app ?_ _)) only [go_sem]; with_reducible rfl))))
    exact fin_2 ⟨by rw [ec2]; rfl, xK3⟩
  ((repeat (first | refine ya (by (with_reducible constructor) <;> first | rfl | decide) ?_ | apply yb | refine yc rfl ?_ | ((first | apply yd | apply ye); simp (disch := first | exact List.all_nil | omega | (simp only [go_sem]; done) | (simp only [ln, List.length_map]; omega) | (repeat' first | assumption | exact Ext.refl _ | refine Ext.app ?_ _)) only [go_sem, dec_t hp, load_at b7]; with_reducible rfl))))
  refine aops_call_to (rIsTick_c _) ?_
  by_cases ht : 0 ≤ (l.getD i (0, 0)).2 ∧ (l.getD i (0, 0)).2 ≤ 1000000000000
  rotate_left 1
  · rw [nodeE_r (fun h => ht h.2), if_pos (by decide)] at ec2
    ((repeat (first | refine ya (by (with_reducible constructor) <;> first | rfl | decide) ?_ | apply yb | refine yc rfl ?_ | ((first | apply yd | apply ye); simp (disch := first | exact List.all_nil | omega | (simp only [go_sem]; done) | (simp only [ln, List.length_map]; omega) | (repeat' first | assumption | exact Ext.refl _ | refine Ext.app ?_ _)) only [go_sem, dec_t hp, dec_f ht]; with_reducible rfl))))
    refine cond_t rfl ?_
    ((repeat (first | refine ya (by (with_reducible constructor) <;> first | rfl | decide) ?_ | apply yb | refine yc rfl ?_ | ((first | apply yd | apply ye); simp (disch := first | exact List.all_nil | omega | (simp only [go_sem]; done) | (simp only [ln, List.length_map]; omega) | (repeat' first | assumption | exact Ext.refl _ | refine Ext.app ?_ _)) only [go_sem]; with_reducible rfl))))
    exact fin_2 ⟨by rw [ec2]; rfl, xK3⟩
  ((repeat (first | refine ya (by (with_reducible constructor) <;> first | rfl | decide) ?_ | apply yb | refine yc rfl ?_ | ((first | apply yd | apply ye); simp (disch := first | exact List.all_nil | omega | (simp only [go_sem]; done) | (simp only [ln, List.length_map]; omega) | (repeat' first | assumption | exact Ext.refl _ | refine Ext.app ?_ _)) only [go_sem, dec_t hp, dec_t ht]; with_reducible rfl))))
  refine cond_f rfl ?_
  have next : nodeE (prevAt l i) (l.getD i (0, 0)) = 0 → ∀ j, j < i + 1 → nodeE (prevAt l j) (l.getD j (0, 0)) = 0 := fun he j hj2 => by
    by_cases e : j = i
    · subst e; exact he
    · exact hj j (by omega)
  by_cases h0 : i = 0
  · subst h0
    have hz : nodeE (prevAt l 0) (l.getD 0 (0, 0)) = 0 := nodeE_z ⟨hp, ht⟩ ⟨show (-1 : Int) < _ by omega, show (-1 : Int) < _ by omega⟩
    ((repeat (first | refine ya (by (with_reducible constructor) <;> first | rfl | decide) ?_ | apply yb | refine yc rfl ?_ | ((first | apply yd | apply ye); simp (disch := first | exact List.all_nil | omega | (simp only [go_sem]; done) | (simp only [ln, List.length_map]; omega) | (repeat' first | assumption | exact Ext.refl _ | refine Ext.app ?_ _)) only [go_sem, dec_f (show ¬ (0 : Int) < ((0 : Nat) : Int) by decide)]; with_reducible rfl))))
    refine cond_f rfl ?_
    ((repeat (first | refine ya (by (with_reducible constructor) <;> first | rfl | decide) ?_ | apply yb | refine yc rfl ?_ | ((first | apply yd | apply ye); simp (disch := first | exact List.all_nil | omega | (simp only [go_sem]; done) | (simp only [ln, List.length_map]; omega) | (repeat' first | assumption | exact Ext.refl _ | refine Ext.app ?_ _)) only [go_sem]; with_reducible rfl))))
    exact ⟨by omega, x1', by simp [forget], next hz⟩
  have hpr : prevAt l i = l.getD (i - 1) (0, 0) := by unfold prevAt; rw [if_neg h0]
  rw [hpr] at ec2 next
  have ei : ((i : Int) - 1).toNat = i - 1 := by omega
  by_cases hq : (l.getD i (0, 0)).1 ≤ (l.getD (i - 1) (0, 0)).1
  · rw [nodeE_o ⟨hp, ht⟩ (fun h => by omega), if_pos (by decide)] at ec2
    ((repeat (first | refine ya (by (with_reducible constructor) <;> first | rfl | decide) ?_ | apply yb | refine yc rfl ?_ | ((first | apply yd | apply ye); simp (disch := first | exact List.all_nil | omega | (simp only [go_sem]; done) | (simp only [ln, List.length_map]; omega) | (repeat' first | assumption | exact Ext.refl _ | refine Ext.app ?_ _)) only [go_sem, hl3.len, hl3.idx, hl3.load, dec_t (show (0 : Int) < (i : Int) by omega), load_at b7, load_at b0', ei, dec_t hq]; with_reducible rfl))))
    refine cond_t rfl ?_
    ((repeat (first | refine ya (by (with_reducible constructor) <;> first | rfl | decide) ?_ | apply yb | refine yc rfl ?_ | ((first | apply yd | apply ye); simp (disch := first | exact List.all_nil | omega | (simp only [go_sem]; done) | (simp only [ln, List.length_map]; omega) | (repeat' first | assumption | exact Ext.refl _ | refine Ext.app ?_ _)) only [go_sem]; with_reducible rfl))))
    exact fin_2 ⟨by rw [ec2]; rfl, xK3⟩
  by_cases hr : (l.getD i (0, 0)).2 ≤ (l.getD (i - 1) (0, 0)).2
  · rw [nodeE_o ⟨hp, ht⟩ (fun h => by omega), if_pos (by decide)] at ec2
    ((repeat (first | refine ya (by (with_reducible constructor) <;> first | rfl | decide) ?_ | apply yb | refine yc rfl ?_ | ((first | apply yd | apply ye); simp (disch := first | exact List.all_nil | omega | (simp only [go_sem]; done) | (simp only [ln, List.length_map]; omega) | (repeat' first | assumption | exact Ext.refl _ | refine Ext.app ?_ _)) only [go_sem, hl3.len, hl3.idx, hl3.load, dec_t (show (0 : Int) < (i : Int) by omega), load_at b7, load_at b0', ei, dec_f hq, dec_t hr]; with_reducible rfl))))
    refine cond_t rfl ?_
    ((repeat (first | refine ya (by (with_reducible constructor) <;> first | rfl | decide) ?_ | apply yb | refine yc rfl ?_ | ((first | apply yd | apply ye); simp (disch := first | exact List.all_nil | omega | (simp only [go_sem]; done) | (simp only [ln, List.length_map]; omega) | (repeat' first | assumption | exact Ext.refl _ | refine Ext.app ?_ _)) only [go_sem]; with_reducible rfl))))
    exact fin_2 ⟨by rw [ec2]; rfl, xK3⟩
  ((repeat (first | refine ya (by (with_reducible constructor) <;> first | rfl | decide) ?_ | apply yb | refine yc rfl ?_ | ((first | apply yd | apply ye); simp (disch := first | exact List.all_nil | omega | (simp only [go_sem]; done) | (simp only [ln, List.length_map]; omega) | (repeat' first | assumption | exact Ext.refl _ | refine Ext.app ?_ _)) only [go_sem, hl3.len, hl3.idx, hl3.load, dec_t (show (0 : Int) < (i : Int) by omega), load_at b7, load_at b0', ei, dec_f hq, dec_f hr]; with_reducible rfl))))
  refine cond_f rfl ?_
  ((repeat (first | refine ya (by (with_reducible constructor) <;> first | rfl | decide) ?_ | apply yb | refine yc rfl ?_ | ((first | apply yd | apply ye); simp (disch := first | exact List.all_nil | omega | (simp only [go_sem]; done) | (simp only [ln, List.length_map]; omega) | (repeat' first | assumption | exact Ext.refl _ | refine Ext.app ?_ _)) only [go_sem]; with_reducible rfl))))
  exact ⟨by omega, x1', by simp [forget], next (nodeE_z ⟨hp, ht⟩ ⟨by omega, by omega⟩)⟩
theorem rMapErr_c {l : List (Int × Int)} {v : Value} (hl : Pairs H l v) (hb : l.length ≤ 1000000000) : ACall Go.Proofs.Tryd.prog 48 [.agg ⟨[v]⟩] H fun w H' => w = .int .i64 (mapErrL l) ∧ H' = H := by
  refine ACall.drop (.int _ _) ?_
  (refine a48 ?_; simp only [n48, List.replicate, List.length_cons, List.length_nil, List.cons_append, List.nil_append]; first | refine q1 ?_ | refine q2 ?_ | refine q6 ?_ | refine q7 ?_ | refine qh rfl ?_ | skip)
  have g0 : (H ++ [AObj.cells true 0 [v]])[H.length]? = some (.cells true 0 [v]) := at_new
  have xG : Ext H (H ++ [AObj.cells true 0 [v]]) := (Ext.refl H).app _
  ((repeat (first | refine ya (by (with_reducible constructor) <;> first | rfl | decide) ?_ | apply yb | refine yc rfl ?_ | ((first | apply yd | apply ye); simp (disch := first | exact List.all_nil | omega | (simp only [go_sem]; done) | (simp only [ln, List.length_map]; omega) | (repeat' first | assumption | exact Ext.refl _ | refine Ext.app ?_ _)) only [go_sem, hl.box1, n1_at g0]; with_reducible rfl))))
  generalize (H ++ [AObj.cells true 0 [v]] : AHeap) = G at g0 xG
  refine aops_call_to (rCheckMap_c (hl.ext xG) hb) ?_
  ((repeat (first | refine ya (by (with_reducible constructor) <;> first | rfl | decide) ?_ | apply yb | refine yc rfl ?_ | ((first | apply yd | apply ye); simp (disch := first | exact List.all_nil | omega | (simp only [go_sem]; done) | (simp only [ln, List.length_map]; omega) | (repeat' first | assumption | exact Ext.refl _ | refine Ext.app ?_ _)) only [go_sem]; with_reducible rfl))))
  exact fin_1 ⟨rfl, xG⟩
end
end Go.Lq

namespace Go.Lq
open Go
open Go.Proofs

def pieceV (p : (Int × Int) × (Int × Int)) : Value := .agg ⟨[.int .i64 p.1.1, .int .i64 p.1.2, .int .i64 p.2.1, .int .i64 p.2.2]⟩
def pieceC (p : (Int × Int) × (Int × Int)) : List Value := [.int .i64 p.1.1, .int .i64 p.1.2, .int .i64 p.2.1, .int .i64 p.2.2]
def piecesI (l : List (Int × Int)) (i : Nat) : Nat → List (List Value)
  | 0 => []
  | k + 1 => [.int .i64 i, pieceV (pieceOf l i)] :: piecesI l (i + 1) k
theorem box_piece {p : (Int × Int) × (Int × Int)} {H : AHeap} : boxR (pieceV p) H = some (.pointer (some ⟨H.length, 0, none⟩), H ++ [.cells true 0 (pieceC p)]) := box_agg rfl
theorem load_piece {G : AHeap} {id : Nat} {p : (Int × Int) × (Int × Int)} (h : G[id]? = some (.cells true 0 (pieceC p))) : loadNR 4 (.pointer (some ⟨id, 0, none⟩)) G = some (pieceV p, G) := loadN_at h (by simp [pieceC])
theorem store_new4 {H : AHeap} {p : (Int × Int) × (Int × Int)} {vs : List Value} (hl : vs.length = 4) : storeR 4 (.pointer (some ⟨H.length, 0, none⟩)) (pieceV p) (H ++ [.cells true 0 vs]) = some (undef, H ++ [.cells true 0 (pieceC p)]) := store_newN rfl (by rw [hl]; rfl) rfl
theorem store_at4 {H : AHeap} {id : Nat} {p q : (Int × Int) × (Int × Int)} (h : H[id]? = some (.cells true 0 (pieceC q))) : storeR 4 (.pointer (some ⟨id, 0, none⟩)) (pieceV p) H = some (undef, H.set id (.cells true 0 (pieceC p))) := by
  have e1 : (pieceV p).cells = ⟨pieceC p⟩ := rfl
  have e2 : (pieceC p).all isAtom = true := rfl
  simp only [storeR, e1, List.size_toArray, storeAt, h, e2]
  rfl
theorem piece_build {a b : Int × Int} : fillA [.int .i64 0, .int .i64 0, .int .i64 0, .int .i64 0] [(0, 2, .agg ⟨[.int .i64 a.1, .int .i64 a.2]⟩), (2, 2, .agg ⟨[.int .i64 b.1, .int .i64 b.2]⟩)] = some [.int .i64 a.1, .int .i64 a.2, .int .i64 b.1, .int .i64 b.2] := rfl
theorem fin_ll {c : RCode} {n a b m : Nat} {R : Value → AHeap → Prop} {e : Env} {H : AHeap} {u w : Value} (h1 : loadNR m (e.getD a undef) H = some (u, H)) (h2 : loadR (e.getD b undef) H = some (w, H)) (h : R (.tuple #[u, w]) H) :
    Fin ⟨c, n, [.loadN m a, .load b]⟩ R .ret e H := by
  refine ⟨.inr rfl, _, ?_, h⟩
  unfold loadNR at h1
  unfold loadR at h2
  split at h1
  · rename_i id off hp
    simp only [Option.map_eq_some_iff, Prod.mk.injEq, and_true] at h1
    obtain ⟨us, h3, rfl⟩ := h1
    split at h2
    · rename_i id' off' hp'
      simp only [Option.map_eq_some_iff, Prod.mk.injEq, and_true] at h2
      obtain ⟨us', h4, rfl⟩ := h2
      simp only [resultA, List.mapM_cons, resA, hp, h3, hp', h4, Option.map_some, List.mapM_nil]
      rfl
    · cases h2
  · cases h1

section
variable {H : AHeap}
theorem positions_c {p : (Int × Int) × (Int × Int)} (h : -1000000000000000 ≤ p.2.1 - p.1.1 ∧ p.2.1 - p.1.1 ≤ 1000000000000000) : ACall Go.Proofs.Tryd.prog 110 [pieceV p] H fun v H' => v = .int .i64 (p.2.1 - p.1.1) ∧ H' = H := by
  refine ACall.drop (.int _ _) ?_
  (refine a110 ?_; simp only [n110, List.replicate, List.length_cons, List.length_nil, List.cons_append, List.nil_append]; first | refine q1 ?_ | refine q2 ?_ | refine q6 ?_ | refine q7 ?_ | refine qh rfl ?_ | skip)
  have g0 : (H ++ [AObj.cells true 0 (pieceC p)])[H.length]? = some (.cells true 0 (pieceC p)) := at_new
  have xG : Ext H (H ++ [AObj.cells true 0 (pieceC p)]) := (Ext.refl H).app _
  ((repeat (first | refine ya (by (with_reducible constructor) <;> first | rfl | decide) ?_ | apply yb | refine yc rfl ?_ | ((first | apply yd | apply ye); simp (disch := first | exact List.all_nil | omega | (simp only [go_sem]; done) | (simp only [ln, List.length_map]; omega) | (repeat' first | assumption | exact Ext.refl _ | refine Ext.app ?_ _)) only [go_sem, box_piece, load_at g0, pieceC]; with_reducible rfl))))
  exact fin_1 ⟨rfl, xG⟩
theorem times_c {p : (Int × Int) × (Int × Int)} (h : -1000000000000000 ≤ p.2.2 - p.1.2 ∧ p.2.2 - p.1.2 ≤ 1000000000000000) : ACall Go.Proofs.Tryd.prog 142 [pieceV p] H fun v H' => v = .int .i64 (p.2.2 - p.1.2) ∧ H' = H := by
  refine ACall.drop (.int _ _) ?_
  (refine a142 ?_; simp only [n142, List.replicate, List.length_cons, List.length_nil, List.cons_append, List.nil_append]; first | refine q1 ?_ | refine q2 ?_ | refine q6 ?_ | refine q7 ?_ | refine qh rfl ?_ | skip)
  have g0 : (H ++ [AObj.cells true 0 (pieceC p)])[H.length]? = some (.cells true 0 (pieceC p)) := at_new
  have xG : Ext H (H ++ [AObj.cells true 0 (pieceC p)]) := (Ext.refl H).app _
  ((repeat (first | refine ya (by (with_reducible constructor) <;> first | rfl | decide) ?_ | apply yb | refine yc rfl ?_ | ((first | apply yd | apply ye); simp (disch := first | exact List.all_nil | omega | (simp only [go_sem]; done) | (simp only [ln, List.length_map]; omega) | (repeat' first | assumption | exact Ext.refl _ | refine Ext.app ?_ _)) only [go_sem, box_piece, load_at g0, pieceC]; with_reducible rfl))))
  exact fin_1 ⟨rfl, xG⟩
theorem pieces_c {l : List (Int × Int)} {v : Value} (hl : Pairs H l v) : ACall Go.Proofs.Tryd.prog 149 [.agg ⟨[v]⟩] H fun v1 H' =>
    v1 = .func (.func 153) #[] #[.pointer (some ⟨H.length, 0, none⟩)] ∧ H' = H ++ [.cells true 0 [v]] := by
  (refine a149 ?_; simp only [n149, List.replicate, List.length_cons, List.length_nil, List.cons_append, List.nil_append]; first | refine q1 ?_ | refine q2 ?_ | refine q6 ?_ | refine q7 ?_ | refine qh rfl ?_ | skip)
  ((repeat (first | refine ya (by (with_reducible constructor) <;> first | rfl | decide) ?_ | apply yb | refine yc rfl ?_ | ((first | apply yd | apply ye); simp (disch := first | exact List.all_nil | omega | (simp only [go_sem]; done) | (simp only [ln, List.length_map]; omega) | (repeat' first | assumption | exact Ext.refl _ | refine Ext.app ?_ _)) only [go_sem, hl.box1]; with_reducible rfl))))
  refine fin_1 ⟨?_, rfl⟩
  simp [go_sem]
def PieceF (idt : Nat) (l : List (Int × Int)) (v : Value) (H : AHeap) : Prop := H[idt]? = some (.cells true 0 [v]) ∧ Pairs H l v
set_option maxHeartbeats 4000000 in
theorem pieces1_c {idt : Nat} {l : List (Int × Int)} {v : Value} (h2 : 1 ≤ l.length) (hb : l.length ≤ 1000) :
    GenA Go.Proofs.Tryd.prog 153 [] [.pointer (some ⟨idt, 0, none⟩)] (PieceF idt l v) (piecesI l 0 (l.length - 1)) := by
  intro lp I S H hF hround hI0
  show ACall _ _ [.func (.yield lp) #[] #[], .pointer (some ⟨idt, 0, none⟩)] _ _
  obtain ⟨f1, f2⟩ := hF _ _ hI0
  (refine a153 ?_; simp only [n153, List.replicate, List.length_cons, List.length_nil, List.cons_append, List.nil_append]; first | refine q1 ?_ | refine q2 ?_ | refine q6 ?_ | refine q7 ?_ | refine qh rfl ?_ | skip)
  obtain ⟨n, hn⟩ : ∃ n, l.length - 1 = n := ⟨_, rfl⟩
  have en : (l.length : Int) - 1 = (n : Int) := by omega
  rw [hn] at hI0
  ((repeat (first | refine ya (by (with_reducible constructor) <;> first | rfl | decide) ?_ | apply yb | refine yc rfl ?_ | ((first | apply yd | apply ye); simp (disch := first | exact List.all_nil | omega | (simp only [go_sem]; done) | (simp only [ln, List.length_map]; omega) | (repeat' first | assumption | exact Ext.refl _ | refine Ext.app ?_ _)) only [go_sem, f2.len, f2.idx, f2.load, load_at f1, en]; with_reducible rfl))))
  refine awp_loop_n [true, true, false, false, false, false, false, true, true, false, false, false, false, false, false, false, false, false, false, false, false, false, false, false, false, false, false, false] n (fun i e H' => e = [.func (.yield lp) #[] #[], .pointer (some ⟨idt, 0, none⟩), junk, junk, junk, junk, junk, .int .i64 n, .int .i64 i, junk, junk, junk, junk, junk, junk, junk, junk, junk, junk, junk, junk, junk, junk, junk, junk, junk, junk, junk] ∧ I (piecesI l i (n - i)) H') ?_ ?_
  · exact ⟨by simp [forget], hI0⟩
  rintro i e H1 hi ⟨rfl, hI⟩
  obtain ⟨f1', f2'⟩ := hF _ _ hI
  ((repeat (first | refine ya (by (with_reducible constructor) <;> first | rfl | decide) ?_ | apply yb | refine yc rfl ?_ | ((first | apply yd | apply ye); simp (disch := first | exact List.all_nil | omega | (simp only [go_sem]; done) | (simp only [ln, List.length_map]; omega) | (repeat' first | assumption | exact Ext.refl _ | refine Ext.app ?_ _)) only [go_sem]; with_reducible rfl))))
  refine cond_p rfl (fun hlt => ?_) (fun hge => ?_)
  rotate_left 1
  · obtain rfl : i = n := by omega
    rw [Nat.sub_self] at hI
    ((repeat (first | refine ya (by (with_reducible constructor) <;> first | rfl | decide) ?_ | apply yb | refine yc rfl ?_ | ((first | apply yd | apply ye); simp (disch := first | exact List.all_nil | omega | (simp only [go_sem]; done) | (simp only [ln, List.length_map]; omega) | (repeat' first | assumption | exact Ext.refl _ | refine Ext.app ?_ _)) only [go_sem]; with_reducible rfl))))
    exact ⟨.inl rfl, undef, rfl, .inl hI⟩
  have hi' : i < n := by omega
  obtain ⟨k, hk⟩ : ∃ k, k = n - (i + 1) := ⟨_, rfl⟩
  rw [show n - i = k + 1 by omega] at hI
  have e1 : (i : Int) + 1 = ((i + 1 : Nat) : Int) := by omega
  ((repeat (first | refine ya (by (with_reducible constructor) <;> first | rfl | decide) ?_ | apply yb | refine yc rfl ?_ | ((first | apply yd | apply ye); simp (disch := first | exact List.all_nil | omega | (simp only [go_sem]; done) | (simp only [ln, List.length_map]; omega) | (repeat' first | assumption | exact Ext.refl _ | refine Ext.app ?_ _)) only [go_sem, f2'.len, f2'.idx, f2'.load, load_at f1', e1, piece_build]; with_reducible rfl))))
  refine adraw_callV ?_
  refine aops_call ((hround _ _ _ hI).mono fun v1 H3 h => ?_)
  rcases h with ⟨rfl, hI3⟩ | ⟨rfl, hS⟩
  · ((repeat (first | refine ya (by (with_reducible constructor) <;> first | rfl | decide) ?_ | apply yb | refine yc rfl ?_ | ((first | apply yd | apply ye); simp (disch := first | exact List.all_nil | omega | (simp only [go_sem]; done) | (simp only [ln, List.length_map]; omega) | (repeat' first | assumption | exact Ext.refl _ | refine Ext.app ?_ _)) only [go_sem]; with_reducible rfl))))
    refine cond_f rfl ?_
    ((repeat (first | refine ya (by (with_reducible constructor) <;> first | rfl | decide) ?_ | apply yb | refine yc rfl ?_ | ((first | apply yd | apply ye); simp (disch := first | exact List.all_nil | omega | (simp only [go_sem]; done) | (simp only [ln, List.length_map]; omega) | (repeat' first | assumption | exact Ext.refl _ | refine Ext.app ?_ _)) only [go_sem]; with_reducible rfl))))
    exact ⟨by omega, by simp [forget], by rw [← hk]; exact hI3⟩
  · ((repeat (first | refine ya (by (with_reducible constructor) <;> first | rfl | decide) ?_ | apply yb | refine yc rfl ?_ | ((first | apply yd | apply ye); simp (disch := first | exact List.all_nil | omega | (simp only [go_sem]; done) | (simp only [ln, List.length_map]; omega) | (repeat' first | assumption | exact Ext.refl _ | refine Ext.app ?_ _)) only [go_sem]; with_reducible rfl))))
    refine cond_t rfl ?_
    ((repeat (first | refine ya (by (with_reducible constructor) <;> first | rfl | decide) ?_ | apply yb | refine yc rfl ?_ | ((first | apply yd | apply ye); simp (disch := first | exact List.all_nil | omega | (simp only [go_sem]; done) | (simp only [ln, List.length_map]; omega) | (repeat' first | assumption | exact Ext.refl _ | refine Ext.app ?_ _)) only [go_sem]; with_reducible rfl))))
    exact ⟨.inr rfl, undef, rfl, .inr hS⟩
end
end Go.Lq

namespace Go.Lq
open Go
open Go.Proofs

def zeroP : (Int × Int) × (Int × Int) := ((0, 0), (0, 0))
def findR (o : Option Nat) (l : List (Int × Int)) : ((Int × Int) × (Int × Int)) × Bool := match o with | some i => (pieceOf l i, true) | none => (zeroP, false)
theorem closed_pieceB (p : (Int × Int) × (Int × Int)) (b : Bool) : Closed (.tuple #[pieceV p, .bool b]) := .tuple _ (closed_list (l := [pieceV p, .bool b]) fun v hv => by
  simp only [List.mem_cons, List.not_mem_nil, or_false] at hv
  rcases hv with rfl | rfl
  · exact .agg _ (closed_list (l := pieceC p) fun v hv => by
      simp only [pieceC, List.mem_cons, List.not_mem_nil, or_false] at hv
      rcases hv with rfl | rfl | rfl | rfl <;> exact .int _ _)
  · exact .bool _)

theorem load1 {H : AHeap} {id : Nat} {w : Value} (h : H[id]? = some (.cells true 0 [w])) : loadR (.pointer (some ⟨id, 0, none⟩)) H = some (w, H) := by rw [load_at h]; rfl
theorem findP_succ {p : (Int × Int) × (Int × Int) → Bool} {l : List (Int × Int)} {i k : Nat} : findP p l i (k + 1) = if p (pieceOf l i) = true then some i else findP p l (i + 1) k := rfl
section
variable {H : AHeap}
set_option maxHeartbeats 4000000 in
theorem find_c {l : List (Int × Int)} {v : Value} {g : FuncId} {ad : Addr} {p : (Int × Int) × (Int × Int) → Bool} (hl : Pairs H l v) (h2 : 1 ≤ l.length) (hb : l.length ≤ 1000)
    (hq : ∀ J, Ext H J → ∀ i, i < l.length - 1 → AInvoke Go.Proofs.Tryd.prog (.func (.func g) #[] #[.pointer (some ad)]) [pieceV (pieceOf l i)] J fun w H' => w = .bool (p (pieceOf l i)) ∧ H' = J) :
    ACall Go.Proofs.Tryd.prog 139 [.agg ⟨[v]⟩, .func (.func g) #[] #[.pointer (some ad)]] H fun w H' => w = .tuple #[pieceV (findR (findP p l 0 (l.length - 1)) l).1, .bool (findR (findP p l 0 (l.length - 1)) l).2] ∧ H' = H := by
  refine ACall.drop (closed_pieceB _ _) ?_
  obtain ⟨n, hn⟩ : ∃ n, l.length - 1 = n := ⟨_, rfl⟩
  rw [hn] at hq ⊢
  (refine a139 ?_; simp only [n139, List.replicate, List.length_cons, List.length_nil, List.cons_append, List.nil_append]; first | refine q1 ?_ | refine q2 ?_ | refine q6 ?_ | refine q7 ?_ | refine qh rfl ?_ | skip)
  obtain ⟨fv, hfv⟩ : ∃ fv, fv = Value.func (.func g) #[] #[.pointer (some ad)] := ⟨_, rfl⟩
  have hbf : ∀ J : AHeap, boxR fv J = some (.pointer (some ⟨J.length, 0, none⟩), J ++ [.cells true 0 [fv]]) := fun J => by rw [hfv]; rfl
  rw [← hfv] at hq ⊢
  obtain ⟨G, hG⟩ : ∃ G, G = H ++ [AObj.cells true 0 [v]] ++ [AObj.cells true 0 [fv]] ++ [AObj.cells true 0 [.int .i64 0, .int .i64 0, .int .i64 0, .int .i64 0]] ++ [AObj.cells true 0 [.bool false]] := ⟨_, rfl⟩
  have g0 : G[H.length]? = some (.cells true 0 [v]) := by rw [hG]; simp
  have g1 : G[H.length + 1]? = some (.cells true 0 [fv]) := by rw [hG]; simp
  have g2 : G[H.length + 2]? = some (.cells true 0 (pieceC zeroP)) := by rw [hG]; simp [pieceC, zeroP]
  have g3 : G[H.length + 3]? = some (.cells true 0 [.bool false]) := by rw [hG]; simp
  have xG : Ext H G := by rw [hG]; exact ((((Ext.refl H).app _).app _).app _).app _
  have lG : G.length = H.length + 4 := by rw [hG]; simp
  (repeat (first | refine ya (by (with_reducible constructor) <;> first | rfl | decide) ?_ | (apply yd; simp (disch := first | exact List.all_nil | omega | (simp only [go_sem]; done) | (simp only [ln, List.length_map]; omega) | (repeat' first | assumption | exact Ext.refl _ | refine Ext.app ?_ _)) only [go_sem, hl.box1, hbf]; with_reducible rfl)))
  (simp only [List.length_append, List.length_cons, List.length_nil, Nat.zero_add, Nat.add_assoc, Nat.reduceAdd])
  rw [← hG]
  clear hG
  have hlg := hl.ext xG
  ((repeat (first | refine ya (by (with_reducible constructor) <;> first | rfl | decide) ?_ | apply yb | refine yc rfl ?_ | ((first | apply yd | apply ye); simp (disch := first | exact List.all_nil | omega | (simp only [go_sem]; done) | (simp only [ln, List.length_map]; omega) | (repeat' first | assumption | exact Ext.refl _ | refine Ext.app ?_ _)) only [go_sem, n1_at g0]; with_reducible rfl))))
  refine aops_call ((pieces_c hlg).mono fun v1 G3 ⟨e1, e2⟩ => ?_)
  subst e1
  have x3 : Ext G G3 := ⟨_, e2⟩
  have xH3 := xG.trans x3
  have k4 : G3[G.length]? = some (.cells true 0 [v]) := by rw [e2]; exact at_new
  have k1 := x3.cell g1
  have k2 := x3.cell g2
  have k3 := x3.cell g3
  have l3 : G3.length = G.length + 1 := by rw [e2]; simp
  clear e2
  (repeat (first | refine ya (by (with_reducible constructor) <;> first | rfl | decide) ?_ | apply yb | refine yc rfl ?_))
  refine awp_rangeA mo rfl (fun l h => by cases h) (pieces1_c (idt := G.length) (l := l) (v := v) h2 hb)
    (fun rest H' => ∃ i, rest = piecesI l i (n - i) ∧ i ≤ n ∧ findP p l 0 n = findP p l i (n - i) ∧ Ext G3 H')
    (fun x H' => x = .ret ∧ ∃ i, findP p l 0 n = some i ∧ H'[H.length + 2]? = some (.cells true 0 (pieceC (pieceOf l i))) ∧ H'[H.length + 3]? = some (.cells true 0 [.bool true]) ∧ Ext H H') ?_ ?_ ?_ ?_ ?_ ?_ ?_
  · rintro rest H' c' ⟨i, h1, h2, h3, h4⟩
    exact ⟨i, h1, h2, h3, h4.set (Nat.le_refl _) _⟩
  · rintro x H' c' ⟨h1, i, h2, h3, h4, h5⟩
    refine ⟨h1, i, h2, ?_, ?_, h5.set (by omega) _⟩
    · rw [List.getElem?_set_ne (by omega)]; exact h3
    · rw [List.getElem?_set_ne (by omega)]; exact h4
  · rintro rest H' ⟨i, h1, h2, h3, h4⟩
    exact ⟨h4.cell k4, hl.ext (xH3.trans h4)⟩
  · intro N
    exact ⟨0, by rw [hn]; rfl, Nat.zero_le _, rfl, (Ext.refl _).app N⟩
  · rintro a rest H1 ⟨i, h1, hin, h3, h4⟩ hlt
    obtain ⟨k, hk⟩ : ∃ k, n - i = k := ⟨_, rfl⟩
    rw [hk] at h1 h3
    match k, h1 with
    | k + 1, h1 =>
    obtain ⟨rfl, rfl⟩ := List.cons.inj h1
    have hi : i < n := by omega
    have hki : k = n - (i + 1) := by omega
    refine ⟨rfl, fun R Rb _ hR => ?_⟩
    simp only [assignParams, List.zip_cons_cons, List.zip_nil_left, List.foldl_cons, List.foldl_nil]
    have hst : storeR 4 (.pointer (some ⟨H1.length, 0, none⟩)) (pieceV (pieceOf l i)) (H1 ++ [.cells true 0 [.int .i64 0, .int .i64 0, .int .i64 0, .int .i64 0]]) = some (undef, H1 ++ [.cells true 0 (pieceC (pieceOf l i))]) := store_new4 rfl
    ((repeat (first | refine ya (by (with_reducible constructor) <;> first | rfl | decide) ?_ | apply yb | refine yc rfl ?_ | ((first | apply yd | apply ye); simp (disch := first | exact List.all_nil | omega | (simp only [go_sem]; done) | (simp only [ln, List.length_map]; omega) | (repeat' first | assumption | exact Ext.refl _ | refine Ext.app ?_ _)) only [go_sem, hst]; with_reducible rfl))))
    refine ⟨rfl, at_app hR, ?_⟩
    have hlR := (List.getElem?_eq_some_iff.1 hR).1
    have hx5 : Ext G3 ((H1 ++ [AObj.cells true 0 (pieceC (pieceOf l i))]).set G3.length Rb) := (h4.app _).set (Nat.le_refl _) _
    have hRb : ((H1 ++ [AObj.cells true 0 (pieceC (pieceOf l i))]).set G3.length Rb)[G3.length]? = some Rb := get_set_self (at_app hR)
    have b7 : ((H1 ++ [AObj.cells true 0 (pieceC (pieceOf l i))]).set G3.length Rb)[H1.length]? = some (.cells true 0 (pieceC (pieceOf l i))) := by
      rw [List.getElem?_set_ne (by omega)]; exact at_new
    generalize ((H1 ++ [AObj.cells true 0 (pieceC (pieceOf l i))]).set G3.length Rb : AHeap) = Hb at hx5 hRb b7
    have b2 := hx5.cell k2
    have b3 := hx5.cell k3
    have b3' : (Hb.set (H.length + 2) (.cells true 0 (pieceC (pieceOf l i))))[H.length + 3]? = some (.cells true 0 [.bool false]) := by rw [List.getElem?_set_ne (by omega)]; exact b3
    ((repeat (first | refine ya (by (with_reducible constructor) <;> first | rfl | decide) ?_ | apply yb | refine yc rfl ?_ | ((first | apply yd | apply ye); simp (disch := first | exact List.all_nil | omega | (simp only [go_sem]; done) | (simp only [ln, List.length_map]; omega) | (repeat' first | assumption | exact Ext.refl _ | refine Ext.app ?_ _)) only [go_sem, load_at (hx5.cell k1), load_piece b7]; with_reducible rfl))))
    refine aops_call_to (hq Hb (xH3.trans hx5) i hi) ?_
    by_cases hp : p (pieceOf l i) = true
    · rw [hp]
      ((repeat (first | refine ya (by (with_reducible constructor) <;> first | rfl | decide) ?_ | apply yb | refine yc rfl ?_ | ((first | apply yd | apply ye); simp (disch := first | exact List.all_nil | omega | (simp only [go_sem]; done) | (simp only [ln, List.length_map]; omega) | (repeat' first | assumption | exact Ext.refl _ | refine Ext.app ?_ _)) only [go_sem]; with_reducible rfl))))
      refine cond_t rfl ?_
      ((repeat (first | refine ya (by (with_reducible constructor) <;> first | rfl | decide) ?_ | apply yb | refine yc rfl ?_ | ((first | apply yd | apply ye); simp (disch := first | exact List.all_nil | omega | (simp only [go_sem]; done) | (simp only [ln, List.length_map]; omega) | (repeat' first | assumption | exact Ext.refl _ | refine Ext.app ?_ _)) only [go_sem, load_piece b7, store_at4 b2, store_b1 b3' (y := .bool true) rfl rfl]; with_reducible rfl))))
      refine rounded_r ?_ ⟨rfl, i, ?_, ?_, get_set_self b3', ((xH3.trans hx5).set (by omega) _).set (by omega) _⟩
      · rw [List.getElem?_set_ne (by omega), List.getElem?_set_ne (by omega)]; exact hRb
      · rw [h3, findP_succ, if_pos hp]
      · rw [List.getElem?_set_ne (by omega)]; exact get_set_self b2
    · have hpf : p (pieceOf l i) = false := by simpa using hp
      rw [hpf]
      ((repeat (first | refine ya (by (with_reducible constructor) <;> first | rfl | decide) ?_ | apply yb | refine yc rfl ?_ | ((first | apply yd | apply ye); simp (disch := first | exact List.all_nil | omega | (simp only [go_sem]; done) | (simp only [ln, List.length_map]; omega) | (repeat' first | assumption | exact Ext.refl _ | refine Ext.app ?_ _)) only [go_sem]; with_reducible rfl))))
      refine cond_f rfl ?_
      ((repeat (first | refine ya (by (with_reducible constructor) <;> first | rfl | decide) ?_ | apply yb | refine yc rfl ?_ | ((first | apply yd | apply ye); simp (disch := first | exact List.all_nil | omega | (simp only [go_sem]; done) | (simp only [ln, List.length_map]; omega) | (repeat' first | assumption | exact Ext.refl _ | refine Ext.app ?_ _)) only [go_sem]; with_reducible rfl))))
      refine rounded_n hRb ⟨i + 1, by rw [← hki], by omega, ?_, hx5⟩
      rw [h3, ← hki, findP_succ, if_neg hp]
  · rintro H' ⟨i, h1, hin, h3, h4⟩
    obtain ⟨k, hk⟩ : ∃ k, n - i = k := ⟨_, rfl⟩
    rw [hk] at h1 h3
    match k, h1 with
    | 0, _ =>
    have b2 := h4.cell k2
    have b3 := h4.cell k3
    have b3' : (H'.set (H.length + 2) (.cells true 0 (pieceC zeroP)))[H.length + 3]? = some (.cells true 0 [.bool false]) := by rw [List.getElem?_set_ne (by omega)]; exact b3
    have hs4 : storeR 4 (.pointer (some ⟨H.length + 2, 0, none⟩)) (.agg ⟨[.int .i64 0, .int .i64 0, .int .i64 0, .int .i64 0]⟩) H' = some (undef, H'.set (H.length + 2) (.cells true 0 (pieceC zeroP))) := store_at4 (p := zeroP) b2
    ((repeat (first | refine ya (by (with_reducible constructor) <;> first | rfl | decide) ?_ | apply yb | refine yc rfl ?_ | ((first | apply yd | apply ye); simp (disch := first | exact List.all_nil | omega | (simp only [go_sem]; done) | (simp only [ln, List.length_map]; omega) | (repeat' first | assumption | exact Ext.refl _ | refine Ext.app ?_ _)) only [go_sem, fill_none, hs4, store_b1 b3' (y := .bool false) rfl rfl]; with_reducible rfl))))
    have e0 : findR (findP p l 0 n) l = (zeroP, false) := by rw [h3]; rfl
    refine fin_ll (u := pieceV zeroP) (w := .bool false) (load_piece (by rw [List.getElem?_set_ne (by omega)]; exact get_set_self b2)) (load1 (get_set_self b3')) ⟨by rw [e0], ((xH3.trans h4).set (by omega) _).set (by omega) _⟩
  · rintro x H' hx ⟨rfl, i, h1, h2, h3, h4⟩
    have e0 : findR (findP p l 0 n) l = (pieceOf l i, true) := by rw [h1]; rfl
    ((repeat (first | refine ya (by (with_reducible constructor) <;> first | rfl | decide) ?_ | apply yb | refine yc rfl ?_ | ((first | apply yd | apply ye); simp (disch := first | exact List.all_nil | omega | (simp only [go_sem]; done) | (simp only [ln, List.length_map]; omega) | (repeat' first | assumption | exact Ext.refl _ | refine Ext.app ?_ _)) only [go_sem]; with_reducible rfl))))
    refine fin_ll (u := pieceV (pieceOf l i)) (w := .bool true) (load_piece h2) (load1 h3) ⟨by rw [e0], h4⟩
end
end Go.Lq

namespace Go.Lq

theorem atTime_succ {l : List (Int × Int)} {t : Int} {i k : Nat} : atTime l t i (k + 1) = if (l.getD (i + 1) (0, 0)).2 < t then atTime l t (i + 1) k else i := rfl
theorem MapOk.timeOne {l : List (Int × Int)} (h : MapOk l) {t : Int} (h0 : (l.getD 0 (0, 0)).2 ≤ t) : ∀ {k i : Nat}, i + k + 1 = l.length → (∀ m, m < i → (l.getD (m + 1) (0, 0)).2 < t) →
    t ≤ (l.getD (l.length - 1) (0, 0)).2 → findP (inTime t) l i k = if k = 0 then none else some (atTime l t i (k - 1))
  | 0, i, _, _, _ => rfl
  | k + 1, i, hk, hm, ht => by
    have hlo : (l.getD i (0, 0)).2 ≤ t := by
      cases i with
      | zero => exact h0
      | succ i => exact Int.le_of_lt (hm i (by omega))
    unfold findP
    by_cases hu : t ≤ (l.getD (i + 1) (0, 0)).2
    · rw [if_pos (by simp only [inTime, pieceOf]; exact decide_eq_true ⟨hlo, hu⟩), if_neg (by omega)]
      cases k with
      | zero => rfl
      | succ k => rw [show k + 1 + 1 - 1 = k + 1 by omega, atTime_succ, if_neg (by omega)]
    · rw [if_neg (fun h => hu (of_decide_eq_true h).2)]
      have hk0 : k ≠ 0 := fun e => by
        subst e
        rw [show l.length - 1 = i + 1 by omega] at ht
        exact hu ht
      rw [MapOk.timeOne h h0 (k := k) (i := i + 1) (by omega) (fun m h2 => by
        by_cases e : m = i
        · subst e; omega
        · exact hm m (by omega)) ht, if_neg hk0, if_neg (by omega)]
      obtain ⟨k, rfl⟩ : ∃ j, k = j + 1 := ⟨k - 1, by omega⟩
      show _ = some (atTime l t i (k + 1))
      rw [atTime_succ, if_pos (by omega), Nat.add_sub_cancel]
def posN (p : (Int × Int) × (Int × Int)) (t : Int) : Int := (t - p.1.2) * (64 * (p.2.1 - p.1.1))
def posLo (p : (Int × Int) × (Int × Int)) (t : Int) : Int := 64 * p.1.1 + posN p t / (p.2.2 - p.1.2)
def posHi (p : (Int × Int) × (Int × Int)) (t : Int) : Int := if posN p t % (p.2.2 - p.1.2) = 0 then posLo p t else posLo p t + 1
end Go.Lq

namespace Go.Lq

structure Digit (y1 y0 u u1 : Int) : Prop where
  b0 : 0 ≤ y0 ∧ y0 < 4294967296
  b1 : 2147483648 ≤ y1 ∧ y1 < 4294967296
  bu : 0 ≤ u ∧ u < y1 * 4294967296 + y0
  bu1 : 0 ≤ u1 ∧ u1 < 4294967296
def quoD (y1 y0 u u1 : Int) : Int := (u * 4294967296 + u1) / (y1 * 4294967296 + y0)
section
variable {y1 y0 u u1 q r : Int}
theorem Digit.vpos (h : Digit y1 y0 u u1) : 0 < y1 * 4294967296 + y0 := by have := h.b0; have := h.b1; omega
theorem Digit.quo_nn (h : Digit y1 y0 u u1) : 0 ≤ quoD y1 y0 u u1 := Int.ediv_nonneg (by have := h.bu; have := h.bu1; omega) (by have := h.vpos; omega)
theorem Digit.quo_lt (h : Digit y1 y0 u u1) : quoD y1 y0 u u1 < 4294967296 := by
  refine Int.ediv_lt_of_lt_mul h.vpos ?_
  have h1 := h.bu
  have h2 := h.bu1
  generalize y1 * 4294967296 + y0 = v at *
  omega
theorem Digit.le_of (h : Digit y1 y0 u u1) (hm : q * (y1 * 4294967296 + y0) ≤ u * 4294967296 + u1) : q ≤ quoD y1 y0 u u1 := Int.le_ediv_of_mul_le h.vpos hm
theorem Digit.lt_of (h : Digit y1 y0 u u1) (hm : u * 4294967296 + u1 < q * (y1 * 4294967296 + y0)) : quoD y1 y0 u u1 < q := Int.ediv_lt_of_lt_mul h.vpos hm
theorem Digit.quo_mul (h : Digit y1 y0 u u1) : quoD y1 y0 u u1 * (y1 * 4294967296 + y0) ≤ u * 4294967296 + u1 := Int.ediv_mul_le _ (by have := h.vpos; omega)
theorem dist_qv (q y1 y0 : Int) : q * (y1 * 4294967296 + y0) = q * y1 * 4294967296 + q * y0 := by rw [Int.mul_add, Int.mul_assoc]
theorem Digit.first (h : Digit y1 y0 u u1) : quoD y1 y0 u u1 ≤ u / y1 := by
  have h1 := h.quo_mul
  have h2 := h.quo_nn
  have hy := h.b0
  have hy1 := h.b1
  have hu1 := h.bu1
  rw [dist_qv] at h1
  refine Int.le_ediv_of_mul_le (by omega) ?_
  have h3 := Int.mul_nonneg h2 hy.1
  generalize quoD y1 y0 u u1 * y1 = a at *
  generalize quoD y1 y0 u u1 * y0 = b at *
  omega
theorem Digit.step (h : Digit y1 y0 u u1) (hu : u = q * y1 + r) (hc : 4294967296 ≤ q ∨ 4294967296 * r + u1 < q * y0) : quoD y1 y0 u u1 ≤ q - 1 := by
  rcases hc with hc | hc
  · have := h.quo_lt; omega
  · have : quoD y1 y0 u u1 < q := h.lt_of (by rw [dist_qv]; omega)
    omega
theorem Digit.done (h : Digit y1 y0 u u1) (hu : u = q * y1 + r) (hq : quoD y1 y0 u u1 ≤ q) (hc : q * y0 ≤ 4294967296 * r + u1) : q = quoD y1 y0 u u1 := by
  have := h.le_of (q := q) (by rw [dist_qv]; omega)
  omega
theorem Digit.done2 (h : Digit y1 y0 u u1) (hu : u = q * y1 + r) (hq : quoD y1 y0 u u1 ≤ q) (hr : 4294967296 ≤ r) : q = quoD y1 y0 u u1 := by
  have hy := h.b0
  have hy1 := h.b1
  have huu := h.bu
  have hu1 := h.bu1
  have h0 := h.quo_nn
  have hlt : q < 4294967296 := by
    rcases Int.lt_or_le q 4294967296 with h | h
    · exact h
    · have := Int.mul_le_mul_of_nonneg_right h (show 0 ≤ y1 by omega)
      omega
  refine h.done hu hq ?_
  have h1 := Int.mul_le_mul (show q ≤ 4294967295 by omega) (show y0 ≤ 4294967295 by omega) hy.1 (by omega)
  omega
theorem Digit.bound (h : Digit y1 y0 u u1) (hu : u = q * y1 + r) (hq : quoD y1 y0 u u1 ≤ q) (hr : 0 ≤ r) : 0 ≤ q ∧ q ≤ 8589934592 ∧ 0 ≤ q * y1 ∧ q * y1 ≤ u := by
  have hy := h.b0
  have hy1 := h.b1
  have huu := h.bu
  have h0 := h.quo_nn
  have h1 := Int.mul_nonneg (show 0 ≤ q by omega) (show 0 ≤ y1 by omega)
  refine ⟨by omega, ?_, h1, by omega⟩
  rcases Int.lt_or_le 8589934592 q with h | h
  · have := Int.mul_le_mul (show 8589934593 ≤ q by omega) hy1.1 (by omega) (by omega)
    omega
  · exact h
theorem Digit.left (h : Digit y1 y0 u u1) (hq : q = quoD y1 y0 u u1) : u * 4294967296 + u1 - q * (y1 * 4294967296 + y0) = (u * 4294967296 + u1) % (y1 * 4294967296 + y0) := by
  subst hq
  have := Int.mul_ediv_add_emod (u * 4294967296 + u1) (y1 * 4294967296 + y0)
  rw [Int.mul_comm] at this
  unfold quoD
  omega
end
theorem div_two {U y s v hi lo un un1 un0 q1 q0 r1 r0 : Int} (hs : 0 < s) (hy : 0 < y) (hv : v = y * s) (hU : U = hi * 18446744073709551616 + lo) (hUs : U * s = un * 18446744073709551616 + un1 * 4294967296 + un0)
    (h1 : un * 4294967296 + un1 = q1 * v + r1) (h2 : r1 * 4294967296 + un0 = q0 * v + r0) (hr : 0 ≤ r0 ∧ r0 < v) : q1 * 4294967296 + q0 = U / y ∧ r0 / s = U % y := by
  have e : U * s = (q1 * 4294967296 + q0) * v + r0 := by
    rw [hUs, Int.add_mul]
    have : q1 * 4294967296 * v = q1 * v * 4294967296 := by ac_rfl
    omega
  have hvp : 0 < v := by rw [hv]; exact Int.mul_pos hy hs
  have k1 : U * s / v = q1 * 4294967296 + q0 := by
    rw [e, Int.add_comm, Int.add_mul_ediv_right _ _ (by omega), Int.ediv_eq_zero_of_lt hr.1 hr.2, Int.zero_add]
  have k2 : U * s / v = U / y := by rw [hv]; exact Int.mul_ediv_mul_of_pos_left U y hs
  have k3 : q1 * 4294967296 + q0 = U / y := by rw [← k1, k2]
  refine ⟨k3, ?_⟩
  have k4 := Int.mul_ediv_add_emod U y
  have k5 : r0 = U % y * s := by
    have : U * s = (U / y) * v + U % y * s := by
      rw [hv]
      have a1 : U / y * (y * s) = y * (U / y) * s := by ac_rfl
      rw [a1, ← Int.add_mul, k4]
    rw [e, k3] at this
    omega
  rw [k5]
  exact Int.mul_ediv_cancel _ (by omega)
end Go.Lq

namespace Go.Lq
open Go
open Go.Proofs

def len8 (n : Nat) : Nat := if n = 0 then 0 else if n < 2 then 1 else if n < 4 then 2 else if n < 8 then 3 else if n < 16 then 4 else if n < 32 then 5 else if n < 64 then 6 else if n < 128 then 7 else 8
def len8tab : ByteArray := ⟨#[0, 1, 2, 2, 3, 3, 3, 3, 4, 4, 4, 4, 4, 4, 4, 4, 5, 5, 5, 5, 5, 5, 5, 5, 5, 5, 5, 5, 5, 5, 5, 5, 6, 6, 6, 6, 6, 6, 6, 6, 6, 6, 6, 6, 6, 6, 6, 6, 6, 6, 6, 6, 6, 6, 6, 6, 6, 6, 6, 6, 6, 6, 6, 6, 7, 7, 7, 7, 7, 7, 7, 7, 7, 7, 7, 7, 7, 7, 7, 7, 7, 7, 7, 7, 7, 7, 7, 7, 7, 7, 7, 7, 7, 7, 7, 7, 7, 7, 7, 7, 7, 7, 7, 7, 7, 7, 7, 7, 7, 7, 7, 7, 7, 7, 7, 7, 7, 7, 7, 7, 7, 7, 7, 7, 7, 7, 7, 7, 8, 8, 8, 8, 8, 8, 8, 8, 8, 8, 8, 8, 8, 8, 8, 8, 8, 8, 8, 8, 8, 8, 8, 8, 8, 8, 8, 8, 8, 8, 8, 8, 8, 8, 8, 8, 8, 8, 8, 8, 8, 8, 8, 8, 8, 8, 8, 8, 8, 8, 8, 8, 8, 8, 8, 8, 8, 8, 8, 8, 8, 8, 8, 8, 8, 8, 8, 8, 8, 8, 8, 8, 8, 8, 8, 8, 8, 8, 8, 8, 8, 8, 8, 8, 8, 8, 8, 8, 8, 8, 8, 8, 8, 8, 8, 8, 8, 8, 8, 8, 8, 8, 8, 8, 8, 8, 8, 8, 8, 8, 8, 8, 8, 8, 8, 8, 8, 8, 8, 8, 8, 8, 8, 8, 8, 8, 8, 8]⟩
theorem tab8_at : ∀ k : _root_.Fin 256, (len8tab[k.val]?).map UInt8.toNat = some (len8 k.val) := by decide +kernel
set_option maxRecDepth 10000 in
theorem tab8 {H : AHeap} {n : Nat} (h : n < 256) : idxSR (.string ⟨#[0, 1, 2, 2, 3, 3, 3, 3, 4, 4, 4, 4, 4, 4, 4, 4, 5, 5, 5, 5, 5, 5, 5, 5, 5, 5, 5, 5, 5, 5, 5, 5, 6, 6, 6, 6, 6, 6, 6, 6, 6, 6, 6, 6, 6, 6, 6, 6, 6, 6, 6, 6, 6, 6, 6, 6, 6, 6, 6, 6, 6, 6, 6, 6, 7, 7, 7, 7, 7, 7, 7, 7, 7, 7, 7, 7, 7, 7, 7, 7, 7, 7, 7, 7, 7, 7, 7, 7, 7, 7, 7, 7, 7, 7, 7, 7, 7, 7, 7, 7, 7, 7, 7, 7, 7, 7, 7, 7, 7, 7, 7, 7, 7, 7, 7, 7, 7, 7, 7, 7, 7, 7, 7, 7, 7, 7, 7, 7, 8, 8, 8, 8, 8, 8, 8, 8, 8, 8, 8, 8, 8, 8, 8, 8, 8, 8, 8, 8, 8, 8, 8, 8, 8, 8, 8, 8, 8, 8, 8, 8, 8, 8, 8, 8, 8, 8, 8, 8, 8, 8, 8, 8, 8, 8, 8, 8, 8, 8, 8, 8, 8, 8, 8, 8, 8, 8, 8, 8, 8, 8, 8, 8, 8, 8, 8, 8, 8, 8, 8, 8, 8, 8, 8, 8, 8, 8, 8, 8, 8, 8, 8, 8, 8, 8, 8, 8, 8, 8, 8, 8, 8, 8, 8, 8, 8, 8, 8, 8, 8, 8, 8, 8, 8, 8, 8, 8, 8, 8, 8, 8, 8, 8, 8, 8, 8, 8, 8, 8, 8, 8, 8, 8, 8, 8, 8, 8]⟩) (.int .u8 (n : Int)) H = some (.int .u8 (len8 n : Nat), H) := by
  show idxSR (.string len8tab) _ _ = _
  obtain ⟨b, hb, he⟩ := Option.map_eq_some_iff.1 (tab8_at ⟨n, h⟩)
  dsimp only at hb he
  simp only [idxSR, idxStr, Int.toNat_natCast, hb, Option.map_some, he]
  rw [if_pos (by omega)]
  rfl
theorem len8_spec {n : Nat} (h0 : 0 < n) (h : n < 256) : 1 ≤ len8 n ∧ len8 n ≤ 8 ∧ 2 ^ (len8 n - 1) ≤ n ∧ n < 2 ^ len8 n := by
  unfold len8
  repeat' split
  all_goals first | (exfalso; omega) | (refine ⟨by omega, by omega, ?_, ?_⟩ <;> (simp; try omega))
theorem pow_split {x n k : Nat} (h1 : 1 ≤ k) (hl : 2 ^ (k - 1) ≤ x / 2 ^ n) (hu : x / 2 ^ n < 2 ^ k) : 2 ^ (n + k - 1) ≤ x ∧ x < 2 ^ (n + k) := by
  constructor
  · have := (Nat.le_div_iff_mul_le (Nat.pow_pos (by omega))).1 hl
    rwa [← Nat.pow_add, show k - 1 + n = n + k - 1 by omega] at this
  · have := (Nat.div_lt_iff_lt_mul (Nat.pow_pos (by omega))).1 hu
    rwa [← Nat.pow_add, show k + n = n + k by omega] at this

section
variable {H : AHeap}
theorem mul64_c {x y : Int} (hx : 0 ≤ x ∧ x < 18446744073709551616) (hy : 0 ≤ y ∧ y < 18446744073709551616) : ACall Go.Proofs.Tryd.prog 151 [.int .u64 x, .int .u64 y] H fun v H' =>
    v = .tuple #[.int .u64 (x * y / 18446744073709551616), .int .u64 (x * y % 18446744073709551616)] ∧ H' = H := by
  obtain ⟨x1, x0, ex1, ex0⟩ : ∃ x1 x0, x1 = x / 4294967296 ∧ x0 = x % 4294967296 := ⟨_, _, rfl, rfl⟩
  obtain ⟨y1, y0, ey1, ey0⟩ : ∃ y1 y0, y1 = y / 4294967296 ∧ y0 = y % 4294967296 := ⟨_, _, rfl, rfl⟩
  have hxx : x = x1 * 4294967296 + x0 := by omega
  have hyy : y = y1 * 4294967296 + y0 := by omega
  have m1 := mul_abs (x := x1) (y := y1) (a := 4294967295) (b := 4294967295) ⟨by omega, by omega⟩ ⟨by omega, by omega⟩
  have m2 := mul_abs (x := x1) (y := y0) (a := 4294967295) (b := 4294967295) ⟨by omega, by omega⟩ ⟨by omega, by omega⟩
  have m3 := mul_abs (x := x0) (y := y1) (a := 4294967295) (b := 4294967295) ⟨by omega, by omega⟩ ⟨by omega, by omega⟩
  have m4 := mul_abs (x := x0) (y := y0) (a := 4294967295) (b := 4294967295) ⟨by omega, by omega⟩ ⟨by omega, by omega⟩
  have n1 := Int.mul_nonneg (show 0 ≤ x1 by omega) (show 0 ≤ y1 by omega)
  have n2 := Int.mul_nonneg (show 0 ≤ x1 by omega) (show 0 ≤ y0 by omega)
  have n3 := Int.mul_nonneg (show 0 ≤ x0 by omega) (show 0 ≤ y1 by omega)
  have n4 := Int.mul_nonneg (show 0 ≤ x0 by omega) (show 0 ≤ y0 by omega)
  have hprod : x * y = x1 * y1 * 18446744073709551616 + x1 * y0 * 4294967296 + x0 * y1 * 4294967296 + x0 * y0 := by
    rw [hxx, hyy]
    simp only [Int.add_mul, Int.mul_add]
    have e1 : x1 * 4294967296 * (y1 * 4294967296) = x1 * y1 * 18446744073709551616 := by
      rw [show (18446744073709551616 : Int) = 4294967296 * 4294967296 by decide]; ac_rfl
    have e2 : x1 * 4294967296 * y0 = x1 * y0 * 4294967296 := by ac_rfl
    have e3 : x0 * (y1 * 4294967296) = x0 * y1 * 4294967296 := by ac_rfl
    omega
  (refine a151 ?_; simp only [n151, List.replicate, List.length_cons, List.length_nil, List.cons_append, List.nil_append]; first | refine q1 ?_ | refine q2 ?_ | refine q6 ?_ | refine q7 ?_ | refine qh rfl ?_ | skip)
  ((repeat (first | refine ya (by (with_reducible constructor) <;> first | rfl | decide) ?_ | apply yb | refine yc rfl ?_ | ((first | apply yd | apply ye); simp (disch := first | exact List.all_nil | omega | (simp only [go_sem]; done) | (simp only [ln, List.length_map]; omega) | (repeat' first | assumption | exact Ext.refl _ | refine Ext.app ?_ _)) only [go_sem, ← ex1, ← ex0, ← ey1, ← ey0, wu_eq (x * y)]; with_reducible rfl))))
  refine fin_2 ⟨?_, rfl⟩
  show Value.tuple #[.int .u64 _, .int .u64 _] = _
  congr 3
  rw [hprod]
  congr 1
  omega
set_option maxRecDepth 10000 in
theorem len64_c {x : Int} (hx : 0 < x ∧ x < 18446744073709551616) : ACall Go.Proofs.Tryd.prog 155 [.int .u64 x] H fun v H' => H' = H ∧ ∃ n : Nat, v = .int .i64 n ∧ 1 ≤ n ∧ n ≤ 64 ∧ ((2 ^ (n - 1) : Nat) : Int) ≤ x ∧ x < ((2 ^ n : Nat) : Int) := by
  obtain ⟨xn, rfl⟩ : ∃ n : Nat, x = n := ⟨x.toNat, by omega⟩
  (refine a155 ?_; simp only [n155, List.replicate, List.length_cons, List.length_nil, List.cons_append, List.nil_append]; first | refine q1 ?_ | refine q2 ?_ | refine q6 ?_ | refine q7 ?_ | refine qh rfl ?_ | skip)
  ((repeat (first | refine ya (by (with_reducible constructor) <;> first | rfl | decide) ?_ | apply yb | refine yc rfl ?_ | ((first | apply yd | apply ye); simp (disch := first | exact List.all_nil | omega | (simp only [go_sem]; done) | (simp only [ln, List.length_map]; omega) | (repeat' first | assumption | exact Ext.refl _ | refine Ext.app ?_ _)) only [go_sem]; with_reducible rfl))))
  refine awp_mid [true, false, true, false, false, false, false, false, false, false, false, false, false, false, false, false, false, false, false, false, false, false, false, false, false] (fun e H' => H' = H ∧ ∃ n : Nat, n ≤ 32 ∧ 0 < xn / 2 ^ n ∧ xn / 2 ^ n < 4294967296 ∧ e = [.int .u64 ((xn / 2 ^ n : Nat) : Int), junk, .int .i64 n, junk, junk, junk, junk, junk, junk, junk, junk, junk, junk, junk, junk, junk, junk, junk, junk, junk, junk, junk, junk, junk, junk]) ?_ ?_
  · refine cond_p rfl (fun h => ?_) (fun h => ?_)
    · ((repeat (first | refine ya (by (with_reducible constructor) <;> first | rfl | decide) ?_ | apply yb | refine yc rfl ?_ | ((first | apply yd | apply ye); simp (disch := first | exact List.all_nil | omega | (simp only [go_sem]; done) | (simp only [ln, List.length_map]; omega) | (repeat' first | assumption | exact Ext.refl _ | refine Ext.app ?_ _)) only [go_sem]; with_reducible rfl))))
      exact ⟨rfl, rfl, 32, by omega, by simp; omega, by simp; omega, by simp [forget]⟩
    · ((repeat (first | refine ya (by (with_reducible constructor) <;> first | rfl | decide) ?_ | apply yb | refine yc rfl ?_ | ((first | apply yd | apply ye); simp (disch := first | exact List.all_nil | omega | (simp only [go_sem]; done) | (simp only [ln, List.length_map]; omega) | (repeat' first | assumption | exact Ext.refl _ | refine Ext.app ?_ _)) only [go_sem]; with_reducible rfl))))
      exact ⟨rfl, rfl, 0, by omega, by simp; omega, by simp; omega, by simp [forget]⟩
  rintro e H' ⟨rfl, n, hn, h1, h2, rfl⟩
  ((repeat (first | refine ya (by (with_reducible constructor) <;> first | rfl | decide) ?_ | apply yb | refine yc rfl ?_ | ((first | apply yd | apply ye); simp (disch := first | exact List.all_nil | omega | (simp only [go_sem]; done) | (simp only [ln, List.length_map]; omega) | (repeat' first | assumption | exact Ext.refl _ | refine Ext.app ?_ _)) only [go_sem]; with_reducible rfl))))
  refine awp_mid [true, false, true, false, false, false, false, false, false, false, false, false, false, false, false, false, false, false, false, false, false, false, false, false, false] (fun e H'' => H'' = H' ∧ ∃ n : Nat, n ≤ 48 ∧ 0 < xn / 2 ^ n ∧ xn / 2 ^ n < 65536 ∧ e = [.int .u64 ((xn / 2 ^ n : Nat) : Int), junk, .int .i64 n, junk, junk, junk, junk, junk, junk, junk, junk, junk, junk, junk, junk, junk, junk, junk, junk, junk, junk, junk, junk, junk, junk]) ?_ ?_
  · refine cond_p rfl (fun h => ?_) (fun h => ?_)
    · have e1 : xn / 2 ^ (n + 16) = xn / 2 ^ n / 65536 := by rw [Nat.pow_add, Nat.div_div_eq_div_mul]
      ((repeat (first | refine ya (by (with_reducible constructor) <;> first | rfl | decide) ?_ | apply yb | refine yc rfl ?_ | ((first | apply yd | apply ye); simp (disch := first | exact List.all_nil | omega | (simp only [go_sem]; done) | (simp only [ln, List.length_map]; omega) | (repeat' first | assumption | exact Ext.refl _ | refine Ext.app ?_ _)) only [go_sem]; with_reducible rfl))))
      exact ⟨rfl, rfl, n + 16, by omega, by rw [e1]; omega, by rw [e1]; omega, by rw [e1]; simp [forget]⟩
    · ((repeat (first | refine ya (by (with_reducible constructor) <;> first | rfl | decide) ?_ | apply yb | refine yc rfl ?_ | ((first | apply yd | apply ye); simp (disch := first | exact List.all_nil | omega | (simp only [go_sem]; done) | (simp only [ln, List.length_map]; omega) | (repeat' first | assumption | exact Ext.refl _ | refine Ext.app ?_ _)) only [go_sem]; with_reducible rfl))))
      exact ⟨rfl, rfl, n, by omega, h1, by omega, by simp [forget]⟩
  rintro e H'' ⟨rfl, n, hn, h1, h2, rfl⟩
  ((repeat (first | refine ya (by (with_reducible constructor) <;> first | rfl | decide) ?_ | apply yb | refine yc rfl ?_ | ((first | apply yd | apply ye); simp (disch := first | exact List.all_nil | omega | (simp only [go_sem]; done) | (simp only [ln, List.length_map]; omega) | (repeat' first | assumption | exact Ext.refl _ | refine Ext.app ?_ _)) only [go_sem]; with_reducible rfl))))
  refine awp_mid [true, false, true, false, false, false, false, false, false, false, false, false, false, false, false, false, false, false, false, false, false, false, false, false, false] (fun e H' => H' = H'' ∧ ∃ n : Nat, n ≤ 56 ∧ 0 < xn / 2 ^ n ∧ xn / 2 ^ n < 256 ∧ e = [.int .u64 ((xn / 2 ^ n : Nat) : Int), junk, .int .i64 n, junk, junk, junk, junk, junk, junk, junk, junk, junk, junk, junk, junk, junk, junk, junk, junk, junk, junk, junk, junk, junk, junk]) ?_ ?_
  · refine cond_p rfl (fun h => ?_) (fun h => ?_)
    · have e1 : xn / 2 ^ (n + 8) = xn / 2 ^ n / 256 := by rw [Nat.pow_add, Nat.div_div_eq_div_mul]
      ((repeat (first | refine ya (by (with_reducible constructor) <;> first | rfl | decide) ?_ | apply yb | refine yc rfl ?_ | ((first | apply yd | apply ye); simp (disch := first | exact List.all_nil | omega | (simp only [go_sem]; done) | (simp only [ln, List.length_map]; omega) | (repeat' first | assumption | exact Ext.refl _ | refine Ext.app ?_ _)) only [go_sem]; with_reducible rfl))))
      exact ⟨rfl, rfl, n + 8, by omega, by rw [e1]; omega, by rw [e1]; omega, by rw [e1]; simp [forget]⟩
    · ((repeat (first | refine ya (by (with_reducible constructor) <;> first | rfl | decide) ?_ | apply yb | refine yc rfl ?_ | ((first | apply yd | apply ye); simp (disch := first | exact List.all_nil | omega | (simp only [go_sem]; done) | (simp only [ln, List.length_map]; omega) | (repeat' first | assumption | exact Ext.refl _ | refine Ext.app ?_ _)) only [go_sem]; with_reducible rfl))))
      exact ⟨rfl, rfl, n, by omega, h1, by omega, by simp [forget]⟩
  rintro e H' ⟨rfl, n, hn, h1, h2, rfl⟩
  obtain ⟨l1, l2, l3, l4⟩ := len8_spec h1 h2
  ((repeat (first | refine ya (by (with_reducible constructor) <;> first | rfl | decide) ?_ | apply yb | refine yc rfl ?_ | ((first | apply yd | apply ye); simp (disch := first | exact List.all_nil | omega | (simp only [go_sem]; done) | (simp only [ln, List.length_map]; omega) | (repeat' first | assumption | exact Ext.refl _ | refine Ext.app ?_ _)) only [go_sem, conv_u8, tab8 h2]; with_reducible rfl))))
  refine fin_1 ⟨rfl, n + len8 (xn / 2 ^ n), by simp, by omega, by omega, ?_⟩
  obtain ⟨k1, k2⟩ := pow_split l1 l3 l4
  exact ⟨by exact_mod_cast k1, by exact_mod_cast k2⟩
theorem lz64_c {x : Int} (hx : 0 < x ∧ x < 18446744073709551616) : ACall Go.Proofs.Tryd.prog 154 [.int .u64 x] H fun v H' => H' = H ∧ ∃ s : Nat, v = .int .i64 s ∧ s < 64 ∧ 9223372036854775808 ≤ x * ((2 ^ s : Nat) : Int) ∧ x * ((2 ^ s : Nat) : Int) < 18446744073709551616 := by
  (refine a154 ?_; simp only [n154, List.replicate, List.length_cons, List.length_nil, List.cons_append, List.nil_append]; first | refine q1 ?_ | refine q2 ?_ | refine q6 ?_ | refine q7 ?_ | refine qh rfl ?_ | skip)
  ((repeat (first | refine ya (by (with_reducible constructor) <;> first | rfl | decide) ?_ | apply yb | refine yc rfl ?_ | ((first | apply yd | apply ye); simp (disch := first | exact List.all_nil | omega | (simp only [go_sem]; done) | (simp only [ln, List.length_map]; omega) | (repeat' first | assumption | exact Ext.refl _ | refine Ext.app ?_ _)) only [go_sem]; with_reducible rfl))))
  refine aops_call ((len64_c hx).mono fun u H' ⟨h1, n, h2, n1, n2, n3, n4⟩ => ?_)
  subst h1; subst h2
  obtain ⟨xn, rfl⟩ : ∃ n : Nat, x = n := ⟨x.toNat, by omega⟩
  ((repeat (first | refine ya (by (with_reducible constructor) <;> first | rfl | decide) ?_ | apply yb | refine yc rfl ?_ | ((first | apply yd | apply ye); simp (disch := first | exact List.all_nil | omega | (simp only [go_sem]; done) | (simp only [ln, List.length_map]; omega) | (repeat' first | assumption | exact Ext.refl _ | refine Ext.app ?_ _)) only [go_sem]; with_reducible rfl))))
  refine fin_1 ⟨rfl, 64 - n, by simp; omega, by omega, ?_⟩
  have k1 : 2 ^ (n - 1) ≤ xn := by exact_mod_cast n3
  have k2 : xn < 2 ^ n := by exact_mod_cast n4
  have p0 : 0 < 2 ^ (64 - n) := Nat.pow_pos (by omega)
  have k3 := Nat.mul_le_mul_right (2 ^ (64 - n)) k1
  have k4 := Nat.mul_lt_mul_of_pos_right k2 p0
  rw [← Nat.pow_add, show n - 1 + (64 - n) = 63 by omega] at k3
  rw [← Nat.pow_add, show n + (64 - n) = 64 by omega] at k4
  rw [← Int.natCast_mul]
  generalize xn * 2 ^ (64 - n) = z at *
  have : (2 : Nat) ^ 63 = 9223372036854775808 := by decide
  have : (2 : Nat) ^ 64 = 18446744073709551616 := by decide
  omega
end
end Go.Lq

namespace Go.Lq
open Go
open Go.Proofs

theorem left_flow {u u1 Q y1 y0 V : Int} (h : Digit y1 y0 u u1) (hV : V = y1 * 4294967296 + y0) (hq : Q = quoD y1 y0 u u1) : wu (wu (wu (u * 4294967296) + u1) - wu (Q * V)) = (u * 4294967296 + u1) % V := by
  have h1 := h.left hq
  have h2 := h.vpos
  have h3 := h.b1
  have h4 := h.b0
  rw [← hV] at h1 h2
  have h5 := Int.emod_nonneg (u * 4294967296 + u1) (show V ≠ 0 by omega)
  have h6 := Int.emod_lt_of_pos (u * 4294967296 + u1) h2
  simp only [wu_eq]
  have h7 : V < 18446744073709551616 := by omega
  generalize (u * 4294967296 + u1) % V = R at *
  generalize Q * V = z at *
  generalize u * 4294967296 = x at *
  omega

section
variable {H : AHeap}
set_option maxHeartbeats 4000000 in
theorem div64_c {hi lo y : Int} (hh : 0 ≤ hi ∧ hi < y) (hl : 0 ≤ lo ∧ lo < 18446744073709551616) (hy : y < 18446744073709551616) : ACall Go.Proofs.Tryd.prog 152 [.int .u64 hi, .int .u64 lo, .int .u64 y] H fun v H' =>
    v = .tuple #[.int .u64 ((hi * 18446744073709551616 + lo) / y), .int .u64 ((hi * 18446744073709551616 + lo) % y)] ∧ H' = H := by
  (refine a152 ?_; simp only [n152, List.replicate, List.length_cons, List.length_nil, List.cons_append, List.nil_append]; first | refine Go.Lq.q1 ?_ | refine Go.Lq.q2 ?_ | refine Go.Lq.q6 ?_ | refine Go.Lq.q7 ?_ | refine Go.Lq.qh rfl ?_ | skip)
  ((repeat (first | refine ya (by (with_reducible constructor) <;> first | rfl | decide) ?_ | apply yb | refine yc rfl ?_ | ((first | apply yd | apply ye); simp (disch := first | exact List.all_nil | omega | (simp only [go_sem]; done) | (simp only [ln, List.length_map]; omega) | (repeat' first | assumption | exact Ext.refl _ | refine Ext.app ?_ _)) only [go_sem, dec_f (show ¬ y = 0 by omega)]; with_reducible rfl))))
  refine cond_f rfl ?_
  ((repeat (first | refine ya (by (with_reducible constructor) <;> first | rfl | decide) ?_ | apply yb | refine yc rfl ?_ | ((first | apply yd | apply ye); simp (disch := first | exact List.all_nil | omega | (simp only [go_sem]; done) | (simp only [ln, List.length_map]; omega) | (repeat' first | assumption | exact Ext.refl _ | refine Ext.app ?_ _)) only [go_sem, dec_f (show ¬ y ≤ hi by omega)]; with_reducible rfl))))
  refine cond_f rfl ?_
  have hy0 : 0 < y := by omega
  by_cases h0 : hi = 0
  · subst h0
    have e1 : lo.tdiv y = lo / y := Int.tdiv_eq_ediv_of_nonneg hl.1
    have e2 : lo.tmod y = lo % y := Int.tmod_eq_emod_of_nonneg hl.1
    have q1 := Int.ediv_nonneg hl.1 (Int.le_of_lt hy0)
    have q2 := Int.ediv_le_self y hl.1
    ((repeat (first | refine ya (by (with_reducible constructor) <;> first | rfl | decide) ?_ | apply yb | refine yc rfl ?_ | ((first | apply yd | apply ye); simp (disch := first | exact List.all_nil | omega | (simp only [go_sem]; done) | (simp only [ln, List.length_map]; omega) | (repeat' first | assumption | exact Ext.refl _ | refine Ext.app ?_ _)) only [go_sem]; with_reducible rfl))))
    refine cond_t rfl ?_
    ((repeat (first | refine ya (by (with_reducible constructor) <;> first | rfl | decide) ?_ | apply yb | refine yc rfl ?_ | ((first | apply yd | apply ye); simp (disch := first | exact List.all_nil | omega | (simp only [go_sem]; done) | (simp only [ln, List.length_map]; omega) | (repeat' first | assumption | exact Ext.refl _ | refine Ext.app ?_ _)) only [go_sem, a_quoU (show y ≠ 0 by omega), a_remU (show y ≠ 0 by omega), e1, e2]; with_reducible rfl))))
    exact fin_2 ⟨by simp, rfl⟩
  ((repeat (first | refine ya (by (with_reducible constructor) <;> first | rfl | decide) ?_ | apply yb | refine yc rfl ?_ | ((first | apply yd | apply ye); simp (disch := first | exact List.all_nil | omega | (simp only [go_sem]; done) | (simp only [ln, List.length_map]; omega) | (repeat' first | assumption | exact Ext.refl _ | refine Ext.app ?_ _)) only [go_sem, dec_f h0]; with_reducible rfl))))
  refine cond_f rfl ?_
  ((repeat (first | refine ya (by (with_reducible constructor) <;> first | rfl | decide) ?_ | apply yb | refine yc rfl ?_ | ((first | apply yd | apply ye); simp (disch := first | exact List.all_nil | omega | (simp only [go_sem]; done) | (simp only [ln, List.length_map]; omega) | (repeat' first | assumption | exact Ext.refl _ | refine Ext.app ?_ _)) only [go_sem]; with_reducible rfl))))
  refine aops_call ((lz64_c ⟨hy0, hy⟩).mono fun u H' ⟨h1, s, h2, s64, n1, n2⟩ => ?_)
  subst h1; subst h2
  have t1 : ((64 : Int) - (s : Int)).toNat = 64 - s := by omega
  have hS : ((2 ^ s : Nat) : Int) * ((2 ^ (64 - s) : Nat) : Int) = 18446744073709551616 := by
    rw [← Int.natCast_mul, ← Nat.pow_add, show s + (64 - s) = 64 by omega]; decide
  have hSp : (0 : Int) < ((2 ^ s : Nat) : Int) := by have := Nat.pow_pos (n := s) (show 0 < 2 by omega); omega
  have hTp : (0 : Int) < ((2 ^ (64 - s) : Nat) : Int) := by have := Nat.pow_pos (n := 64 - s) (show 0 < 2 by omega); omega
  have hTl : lo / ((2 ^ (64 - s) : Nat) : Int) < ((2 ^ s : Nat) : Int) := Int.ediv_lt_of_lt_mul hTp (by rw [hS]; exact hl.2)
  have hTn : 0 ≤ lo / ((2 ^ (64 - s) : Nat) : Int) := Int.ediv_nonneg hl.1 (Int.le_of_lt hTp)
  have hls : lo * ((2 ^ s : Nat) : Int) = lo / ((2 ^ (64 - s) : Nat) : Int) * 18446744073709551616 + lo * ((2 ^ s : Nat) : Int) % 18446744073709551616 := by
    have a1 := Int.mul_ediv_add_emod (lo * ((2 ^ s : Nat) : Int)) 18446744073709551616
    have a2 : lo * ((2 ^ s : Nat) : Int) / 18446744073709551616 = lo / ((2 ^ (64 - s) : Nat) : Int) := by
      rw [← hS, Int.mul_comm lo]
      exact Int.mul_ediv_mul_of_pos _ _ hSp
    rw [a2] at a1
    omega
  have hcS : (hi + 1) * ((2 ^ s : Nat) : Int) ≤ y * ((2 ^ s : Nat) : Int) := Int.mul_le_mul_of_nonneg_right (by omega) (Int.le_of_lt hSp)
  rw [Int.add_mul, Int.one_mul] at hcS
  have hhS : 0 ≤ hi * ((2 ^ s : Nat) : Int) := Int.mul_nonneg hh.1 (Int.le_of_lt hSp)
  have hbor := fun H' => bor_add (H := H') (s := s) (c := hi) (b := lo / ((2 ^ (64 - s) : Nat) : Int)) hh.1 (by omega) hTn hTl (by omega)
  have hdiv := fun U32 U1 U0 Q1 Q0 R1 R0 => @div_two (hi * 18446744073709551616 + lo) y ((2 ^ s : Nat) : Int) (y * ((2 ^ s : Nat) : Int)) hi lo U32 U1 U0 Q1 Q0 R1 R0 hSp hy0 rfl rfl
  have hUs : (hi * 18446744073709551616 + lo) * ((2 ^ s : Nat) : Int) = (hi * ((2 ^ s : Nat) : Int) + lo / ((2 ^ (64 - s) : Nat) : Int)) * 18446744073709551616 + lo * ((2 ^ s : Nat) : Int) % 18446744073709551616 := by
    rw [Int.add_mul, Int.add_mul, Int.add_assoc, ← hls]
    congr 1
    ac_rfl
  have hu32 : 0 ≤ hi * ((2 ^ s : Nat) : Int) + lo / ((2 ^ (64 - s) : Nat) : Int) ∧ hi * ((2 ^ s : Nat) : Int) + lo / ((2 ^ (64 - s) : Nat) : Int) < y * ((2 ^ s : Nat) : Int) := by omega
  have hV1 : 9223372036854775808 ≤ y * ((2 ^ s : Nat) : Int) := n1
  obtain ⟨V, hVd⟩ : ∃ V, y * ((2 ^ s : Nat) : Int) = V := ⟨_, rfl⟩
  obtain ⟨U32, hUd⟩ : ∃ U, hi * ((2 ^ s : Nat) : Int) + lo / ((2 ^ (64 - s) : Nat) : Int) = U := ⟨_, rfl⟩
  obtain ⟨U10, hLd⟩ : ∃ U, lo * ((2 ^ s : Nat) : Int) % 18446744073709551616 = U := ⟨_, rfl⟩
  obtain ⟨y1, hy1⟩ : ∃ z, V / 4294967296 = z := ⟨_, rfl⟩
  obtain ⟨y0, hy0'⟩ : ∃ z, V % 4294967296 = z := ⟨_, rfl⟩
  obtain ⟨U1, hU1⟩ : ∃ z, U10 / 4294967296 = z := ⟨_, rfl⟩
  obtain ⟨U0, hU0⟩ : ∃ z, U10 % 4294967296 = z := ⟨_, rfl⟩
  have hV2 : V = y1 * 4294967296 + y0 := by omega
  rw [hVd] at hu32 hV1 n2
  rw [hUd] at hu32
  have hLb : 0 ≤ U10 ∧ U10 < 18446744073709551616 := by omega
  have D : Digit y1 y0 U32 U1 := ⟨by omega, by omega, by omega, by omega⟩
  have e1 : U32.tdiv y1 = U32 / y1 := Int.tdiv_eq_ediv_of_nonneg D.bu.1
  have q1b := Int.ediv_le_self y1 D.bu.1
  have q1n := Int.ediv_nonneg D.bu.1 (show 0 ≤ y1 by have := D.b1; omega)
  have q1m : 0 ≤ U32 / y1 * y1 ∧ U32 / y1 * y1 ≤ U32 := ⟨Int.mul_nonneg q1n (by have := D.b1; omega), Int.ediv_mul_le _ (by have := D.b1; omega)⟩
  have q1r : U32 - U32 / y1 * y1 = U32 % y1 := by have := Int.mul_ediv_add_emod U32 y1; rw [Int.mul_comm] at this; omega
  have q1e := Int.emod_nonneg U32 (show y1 ≠ 0 by have := D.b1; omega)
  have q1l := Int.emod_lt_of_pos U32 (show 0 < y1 by have := D.b1; omega)
  have hb1 := D.b1
  have hb0 := D.b0
  have hbu := D.bu
  have hbu1 := D.bu1
  have hshr : ∀ J : AHeap, shrR (.int .u64 lo) (.int .u64 ((64 : Int) - (s : Int))) J = some (.int .u64 (lo / ((2 ^ (64 - s) : Nat) : Int)), J) := fun J => by rw [shr_u hl.1 (by omega) (by omega), t1]
  ((repeat (first | refine ya (by (with_reducible constructor) <;> first | rfl | decide) ?_ | apply yb | refine yc rfl ?_ | ((first | apply yd | apply ye); simp (disch := first | exact List.all_nil | omega | (simp only [go_sem]; done) | (simp only [ln, List.length_map]; omega) | (repeat' first | assumption | exact Ext.refl _ | refine Ext.app ?_ _)) only [go_sem, shl_u, hshr, hbor, wu_eq (lo * ((2 ^ s : Nat) : Int)), hVd, hUd, hLd, hy1, hy0', hU1, hU0, a_quoU (show y1 ≠ 0 by omega), e1, q1r]; with_reducible rfl))))
  refine awp_midB [false, false, true, false, false, false, false, false, true, true, true, true, false, true, true, true, false, false, false, false, false, false, false, false, false, false, false, false, false, false, false, false, false, false, false, false, false, false, false, false, false, false, false, false, false, false, false, false, false, false, false, false, false, false, false, false, false, false, false, false, false, false, false, false, false, false, false, false, false, false, false, false, false, false, false, false, false, false, false, false, false, false, false, false, false, false, false, false, false, false, false, false, false, false, false, false, false, false, false, false, false, false, false, false, false, false, false, false, false, false, false, false, false, false, false, false, false, false, false, false, false, false, false, false, false, false, false, false, false, false, false, false, false, false, false] (fun e J => J = H' ∧ e = [junk, junk, .int .u64 V, junk, junk, junk, junk, junk, .int .u64 s, .int .u64 y1, .int .u64 y0, .int .u64 U32, junk, .int .u64 U1, .int .u64 U0, .int .u64 (quoD y1 y0 U32 U1), junk, junk, junk, junk, junk, junk, junk, junk, junk, junk, junk, junk, junk, junk, junk, junk, junk, junk, junk, junk, junk, junk, junk, junk, junk, junk, junk, junk, junk, junk, junk, junk, junk, junk, junk, junk, junk, junk, junk, junk, junk, junk, junk, junk, junk, junk, junk, junk, junk, junk, junk, junk, junk, junk, junk, junk, junk, junk, junk, junk, junk, junk, junk, junk, junk, junk, junk, junk, junk, junk, junk, junk, junk, junk, junk, junk, junk, junk, junk, junk, junk, junk, junk, junk, junk, junk, junk, junk, junk, junk, junk, junk, junk, junk, junk, junk, junk, junk, junk, junk, junk, junk, junk, junk, junk, junk, junk, junk, junk, junk, junk, junk, junk, junk, junk, junk, junk, junk, junk]) ?_ ?_
  · have hfst := D.first
    have q2 := Int.ediv_nonneg D.bu.1 (show 0 ≤ y1 by omega)
    refine awp_loop [false, false, true, false, false, false, false, false, true, true, true, true, false, true, true, true, true, false, false, false, false, false, false, false, false, false, false, false, false, false, false, false, false, false, false, false, false, false, false, false, false, false, false, false, false, false, false, false, false, false, false, false, false, false, false, false, false, false, false, false, false, false, false, false, false, false, false, false, false, false, false, false, false, false, false, false, false, false, false, false, false, false, false, false, false, false, false, false, false, false, false, false, false, false, false, false, false, false, false, false, false, false, false, false, false, false, false, false, false, false, false, false, false, false, false, false, false, false, false, false, false, false, false, false, false, false, false, false, false, false, false, false, false, false, false] (fun k e J => J = H' ∧ ∃ q r : Int, k = q.toNat ∧ U32 = q * y1 + r ∧ quoD y1 y0 U32 U1 ≤ q ∧ (0 ≤ r ∧ r < 4294967296) ∧ e = [junk, junk, .int .u64 V, junk, junk, junk, junk, junk, .int .u64 s, .int .u64 y1, .int .u64 y0, .int .u64 U32, junk, .int .u64 U1, .int .u64 U0, .int .u64 q, .int .u64 r, junk, junk, junk, junk, junk, junk, junk, junk, junk, junk, junk, junk, junk, junk, junk, junk, junk, junk, junk, junk, junk, junk, junk, junk, junk, junk, junk, junk, junk, junk, junk, junk, junk, junk, junk, junk, junk, junk, junk, junk, junk, junk, junk, junk, junk, junk, junk, junk, junk, junk, junk, junk, junk, junk, junk, junk, junk, junk, junk, junk, junk, junk, junk, junk, junk, junk, junk, junk, junk, junk, junk, junk, junk, junk, junk, junk, junk, junk, junk, junk, junk, junk, junk, junk, junk, junk, junk, junk, junk, junk, junk, junk, junk, junk, junk, junk, junk, junk, junk, junk, junk, junk, junk, junk, junk, junk, junk, junk, junk, junk, junk, junk, junk, junk, junk, junk, junk, junk]) (U32 / y1).toNat ?_ ?_
    · refine ⟨rfl, U32 / y1, U32 % y1, rfl, ?_, hfst, ⟨Int.emod_nonneg _ (by omega), by have := Int.emod_lt_of_pos U32 (show 0 < y1 by omega); omega⟩, by simp [forget]⟩
      have := Int.mul_ediv_add_emod U32 y1
      rw [Int.mul_comm] at this
      omega
    rintro k e J ⟨rfl, q, r, rfl, hu, hq, hr, rfl⟩
    obtain ⟨w1, w2, w3, w4⟩ := D.bound hu hq hr.1
    have hu' : U32 = (q - 1) * y1 + (r + y1) := by rw [Int.sub_mul, Int.one_mul]; omega
    have D0 := D.quo_nn
    by_cases hA : 4294967296 ≤ q
    · have hst := D.step hu (.inl hA)
      ((repeat (first | refine ya (by (with_reducible constructor) <;> first | rfl | decide) ?_ | apply yb | refine yc rfl ?_ | ((first | apply yd | apply ye); simp (disch := first | exact List.all_nil | omega | (simp only [go_sem]; done) | (simp only [ln, List.length_map]; omega) | (repeat' first | assumption | exact Ext.refl _ | refine Ext.app ?_ _)) only [go_sem, dec_t hA]; with_reducible rfl))))
      refine cond_t rfl ?_
      ((repeat (first | refine ya (by (with_reducible constructor) <;> first | rfl | decide) ?_ | apply yb | refine yc rfl ?_ | ((first | apply yd | apply ye); simp (disch := first | exact List.all_nil | omega | (simp only [go_sem]; done) | (simp only [ln, List.length_map]; omega) | (repeat' first | assumption | exact Ext.refl _ | refine Ext.app ?_ _)) only [go_sem]; with_reducible rfl))))
      refine cond_p rfl (fun hx => ?_) (fun hx => ?_)
      · have hd := D.done2 hu' hst hx
        ((repeat (first | refine ya (by (with_reducible constructor) <;> first | rfl | decide) ?_ | apply yb | refine yc rfl ?_ | ((first | apply yd | apply ye); simp (disch := first | exact List.all_nil | omega | (simp only [go_sem]; done) | (simp only [ln, List.length_map]; omega) | (repeat' first | assumption | exact Ext.refl _ | refine Ext.app ?_ _)) only [go_sem]; with_reducible rfl))))
        exact ⟨rfl, rfl, by rw [← hd]; simp [forget]⟩
      · ((repeat (first | refine ya (by (with_reducible constructor) <;> first | rfl | decide) ?_ | apply yb | refine yc rfl ?_ | ((first | apply yd | apply ye); simp (disch := first | exact List.all_nil | omega | (simp only [go_sem]; done) | (simp only [ln, List.length_map]; omega) | (repeat' first | assumption | exact Ext.refl _ | refine Ext.app ?_ _)) only [go_sem]; with_reducible rfl))))
        exact ⟨(q - 1).toNat, by omega, rfl, q - 1, r + y1, rfl, hu', hst, by omega, by simp [forget]⟩
    · have m1 := mul_abs (x := q) (y := y0) (a := 4294967295) (b := 4294967295) ⟨by omega, by omega⟩ ⟨by omega, by omega⟩
      have m2 := Int.mul_nonneg w1 D.b0.1
      ((repeat (first | refine ya (by (with_reducible constructor) <;> first | rfl | decide) ?_ | apply yb | refine yc rfl ?_ | ((first | apply yd | apply ye); simp (disch := first | exact List.all_nil | omega | (simp only [go_sem]; done) | (simp only [ln, List.length_map]; omega) | (repeat' first | assumption | exact Ext.refl _ | refine Ext.app ?_ _)) only [go_sem, dec_f hA]; with_reducible rfl))))
      refine cond_p rfl (fun hc => ?_) (fun hc => ?_)
      · have hst := D.step hu (.inr hc)
        ((repeat (first | refine ya (by (with_reducible constructor) <;> first | rfl | decide) ?_ | apply yb | refine yc rfl ?_ | ((first | apply yd | apply ye); simp (disch := first | exact List.all_nil | omega | (simp only [go_sem]; done) | (simp only [ln, List.length_map]; omega) | (repeat' first | assumption | exact Ext.refl _ | refine Ext.app ?_ _)) only [go_sem]; with_reducible rfl))))
        refine cond_p rfl (fun hx => ?_) (fun hx => ?_)
        · have hd := D.done2 hu' hst hx
          ((repeat (first | refine ya (by (with_reducible constructor) <;> first | rfl | decide) ?_ | apply yb | refine yc rfl ?_ | ((first | apply yd | apply ye); simp (disch := first | exact List.all_nil | omega | (simp only [go_sem]; done) | (simp only [ln, List.length_map]; omega) | (repeat' first | assumption | exact Ext.refl _ | refine Ext.app ?_ _)) only [go_sem]; with_reducible rfl))))
          exact ⟨rfl, rfl, by rw [← hd]; simp [forget]⟩
        · ((repeat (first | refine ya (by (with_reducible constructor) <;> first | rfl | decide) ?_ | apply yb | refine yc rfl ?_ | ((first | apply yd | apply ye); simp (disch := first | exact List.all_nil | omega | (simp only [go_sem]; done) | (simp only [ln, List.length_map]; omega) | (repeat' first | assumption | exact Ext.refl _ | refine Ext.app ?_ _)) only [go_sem]; with_reducible rfl))))
          exact ⟨(q - 1).toNat, by omega, rfl, q - 1, r + y1, rfl, hu', hst, by omega, by simp [forget]⟩
      · have hd := D.done hu hq (by omega)
        ((repeat (first | refine ya (by (with_reducible constructor) <;> first | rfl | decide) ?_ | apply yb | refine yc rfl ?_ | ((first | apply yd | apply ye); simp (disch := first | exact List.all_nil | omega | (simp only [go_sem]; done) | (simp only [ln, List.length_map]; omega) | (repeat' first | assumption | exact Ext.refl _ | refine Ext.app ?_ _)) only [go_sem]; with_reducible rfl))))
        exact ⟨rfl, rfl, by rw [← hd]; simp [forget]⟩
  rintro e J ⟨rfl, rfl⟩
  have hfl := left_flow D hV2 rfl
  obtain ⟨Q1, hQ1⟩ : ∃ z, quoD y1 y0 U32 U1 = z := ⟨_, rfl⟩
  obtain ⟨R1, hR1⟩ : ∃ z, (U32 * 4294967296 + U1) % V = z := ⟨_, rfl⟩
  have hQb : 0 ≤ Q1 ∧ Q1 < 4294967296 := by rw [← hQ1]; exact ⟨D.quo_nn, D.quo_lt⟩
  rw [hR1, hQ1] at hfl
  rw [hQ1]
  have hR1b : 0 ≤ R1 ∧ R1 < V := by rw [← hR1]; exact ⟨Int.emod_nonneg _ (by omega), Int.emod_lt_of_pos _ (by omega)⟩
  have D2 : Digit y1 y0 R1 U0 := ⟨by omega, by omega, by omega, by omega⟩
  have e2 : R1.tdiv y1 = R1 / y1 := Int.tdiv_eq_ediv_of_nonneg hR1b.1
  have p1b := Int.ediv_le_self y1 hR1b.1
  have p1n := Int.ediv_nonneg hR1b.1 (show 0 ≤ y1 by omega)
  have p1m : 0 ≤ R1 / y1 * y1 ∧ R1 / y1 * y1 ≤ R1 := ⟨Int.mul_nonneg p1n (by omega), Int.ediv_mul_le _ (by omega)⟩
  have p1r : R1 - R1 / y1 * y1 = R1 % y1 := by have := Int.mul_ediv_add_emod R1 y1; rw [Int.mul_comm] at this; omega
  have p1e := Int.emod_nonneg R1 (show y1 ≠ 0 by omega)
  have p1l := Int.emod_lt_of_pos R1 (show 0 < y1 by omega)
  ((repeat (first | refine ya (by (with_reducible constructor) <;> first | rfl | decide) ?_ | apply yb | refine yc rfl ?_ | ((first | apply yd | apply ye); simp (disch := first | exact List.all_nil | omega | (simp only [go_sem]; done) | (simp only [ln, List.length_map]; omega) | (repeat' first | assumption | exact Ext.refl _ | refine Ext.app ?_ _)) only [go_sem, hfl, a_quoU (show y1 ≠ 0 by omega), e2, p1r]; with_reducible rfl))))
  refine awp_midB [false, false, true, false, false, false, false, false, true, true, true, false, false, false, true, true, false, true, true, false, false, false, false, false, false, false, false, false, false, false, false, false, false, false, false, false, false, false, false, false, false, false, false, false, false, false, false, false, false, false, false, false, false, false, false, false, false, false, false, false, false, false, false, false, false, false, false, false, false, false, false, false, false, false, false, false, false, false, false, false, false, false, false, false, false, false, false, false, false, false, false, false, false, false, false, false, false, false, false, false, false, false, false, false, false, false, false, false, false, false, false, false, false, false, false, false, false, false, false, false, false, false, false, false, false, false, false, false, false, false, false, false, false, false, false] (fun e K => K = J ∧ e = [junk, junk, .int .u64 V, junk, junk, junk, junk, junk, .int .u64 s, .int .u64 y1, .int .u64 y0, junk, junk, junk, .int .u64 U0, .int .u64 Q1, junk, .int .u64 R1, .int .u64 (quoD y1 y0 R1 U0), junk, junk, junk, junk, junk, junk, junk, junk, junk, junk, junk, junk, junk, junk, junk, junk, junk, junk, junk, junk, junk, junk, junk, junk, junk, junk, junk, junk, junk, junk, junk, junk, junk, junk, junk, junk, junk, junk, junk, junk, junk, junk, junk, junk, junk, junk, junk, junk, junk, junk, junk, junk, junk, junk, junk, junk, junk, junk, junk, junk, junk, junk, junk, junk, junk, junk, junk, junk, junk, junk, junk, junk, junk, junk, junk, junk, junk, junk, junk, junk, junk, junk, junk, junk, junk, junk, junk, junk, junk, junk, junk, junk, junk, junk, junk, junk, junk, junk, junk, junk, junk, junk, junk, junk, junk, junk, junk, junk, junk, junk, junk, junk, junk, junk, junk, junk]) ?_ ?_
  · have hfst := D2.first
    have q2 := Int.ediv_nonneg D2.bu.1 (show 0 ≤ y1 by omega)
    refine awp_loop [false, false, true, false, false, false, false, false, true, true, true, false, false, false, true, true, true, true, true, false, false, false, false, false, false, false, false, false, false, false, false, false, false, false, false, false, false, false, false, false, false, false, false, false, false, false, false, false, false, false, false, false, false, false, false, false, false, false, false, false, false, false, false, false, false, false, false, false, false, false, false, false, false, false, false, false, false, false, false, false, false, false, false, false, false, false, false, false, false, false, false, false, false, false, false, false, false, false, false, false, false, false, false, false, false, false, false, false, false, false, false, false, false, false, false, false, false, false, false, false, false, false, false, false, false, false, false, false, false, false, false, false, false, false, false] (fun k e K => K = J ∧ ∃ q r : Int, k = q.toNat ∧ R1 = q * y1 + r ∧ quoD y1 y0 R1 U0 ≤ q ∧ (0 ≤ r ∧ r < 4294967296) ∧ e = [junk, junk, .int .u64 V, junk, junk, junk, junk, junk, .int .u64 s, .int .u64 y1, .int .u64 y0, junk, junk, junk, .int .u64 U0, .int .u64 Q1, .int .u64 r, .int .u64 R1, .int .u64 q, junk, junk, junk, junk, junk, junk, junk, junk, junk, junk, junk, junk, junk, junk, junk, junk, junk, junk, junk, junk, junk, junk, junk, junk, junk, junk, junk, junk, junk, junk, junk, junk, junk, junk, junk, junk, junk, junk, junk, junk, junk, junk, junk, junk, junk, junk, junk, junk, junk, junk, junk, junk, junk, junk, junk, junk, junk, junk, junk, junk, junk, junk, junk, junk, junk, junk, junk, junk, junk, junk, junk, junk, junk, junk, junk, junk, junk, junk, junk, junk, junk, junk, junk, junk, junk, junk, junk, junk, junk, junk, junk, junk, junk, junk, junk, junk, junk, junk, junk, junk, junk, junk, junk, junk, junk, junk, junk, junk, junk, junk, junk, junk, junk, junk, junk, junk]) (R1 / y1).toNat ?_ ?_
    · refine ⟨rfl, R1 / y1, R1 % y1, rfl, ?_, hfst, ⟨Int.emod_nonneg _ (by omega), by have := Int.emod_lt_of_pos R1 (show 0 < y1 by omega); omega⟩, by simp [forget]⟩
      have := Int.mul_ediv_add_emod R1 y1
      rw [Int.mul_comm] at this
      omega
    rintro k e K ⟨rfl, q, r, rfl, hu, hq, hr, rfl⟩
    obtain ⟨w1, w2, w3, w4⟩ := D2.bound hu hq hr.1
    have hu' : R1 = (q - 1) * y1 + (r + y1) := by rw [Int.sub_mul, Int.one_mul]; omega
    have D0 := D2.quo_nn
    by_cases hA : 4294967296 ≤ q
    · have hst := D2.step hu (.inl hA)
      ((repeat (first | refine ya (by (with_reducible constructor) <;> first | rfl | decide) ?_ | apply yb | refine yc rfl ?_ | ((first | apply yd | apply ye); simp (disch := first | exact List.all_nil | omega | (simp only [go_sem]; done) | (simp only [ln, List.length_map]; omega) | (repeat' first | assumption | exact Ext.refl _ | refine Ext.app ?_ _)) only [go_sem, dec_t hA]; with_reducible rfl))))
      refine cond_t rfl ?_
      ((repeat (first | refine ya (by (with_reducible constructor) <;> first | rfl | decide) ?_ | apply yb | refine yc rfl ?_ | ((first | apply yd | apply ye); simp (disch := first | exact List.all_nil | omega | (simp only [go_sem]; done) | (simp only [ln, List.length_map]; omega) | (repeat' first | assumption | exact Ext.refl _ | refine Ext.app ?_ _)) only [go_sem]; with_reducible rfl))))
      refine cond_p rfl (fun hx => ?_) (fun hx => ?_)
      · have hd := D2.done2 hu' hst hx
        ((repeat (first | refine ya (by (with_reducible constructor) <;> first | rfl | decide) ?_ | apply yb | refine yc rfl ?_ | ((first | apply yd | apply ye); simp (disch := first | exact List.all_nil | omega | (simp only [go_sem]; done) | (simp only [ln, List.length_map]; omega) | (repeat' first | assumption | exact Ext.refl _ | refine Ext.app ?_ _)) only [go_sem]; with_reducible rfl))))
        exact ⟨rfl, rfl, by rw [← hd]; simp [forget]⟩
      · ((repeat (first | refine ya (by (with_reducible constructor) <;> first | rfl | decide) ?_ | apply yb | refine yc rfl ?_ | ((first | apply yd | apply ye); simp (disch := first | exact List.all_nil | omega | (simp only [go_sem]; done) | (simp only [ln, List.length_map]; omega) | (repeat' first | assumption | exact Ext.refl _ | refine Ext.app ?_ _)) only [go_sem]; with_reducible rfl))))
        exact ⟨(q - 1).toNat, by omega, rfl, q - 1, r + y1, rfl, hu', hst, by omega, by simp [forget]⟩
    · have m1 := mul_abs (x := q) (y := y0) (a := 4294967295) (b := 4294967295) ⟨by omega, by omega⟩ ⟨by omega, by omega⟩
      have m2 := Int.mul_nonneg w1 D2.b0.1
      ((repeat (first | refine ya (by (with_reducible constructor) <;> first | rfl | decide) ?_ | apply yb | refine yc rfl ?_ | ((first | apply yd | apply ye); simp (disch := first | exact List.all_nil | omega | (simp only [go_sem]; done) | (simp only [ln, List.length_map]; omega) | (repeat' first | assumption | exact Ext.refl _ | refine Ext.app ?_ _)) only [go_sem, dec_f hA]; with_reducible rfl))))
      refine cond_p rfl (fun hc => ?_) (fun hc => ?_)
      · have hst := D2.step hu (.inr hc)
        ((repeat (first | refine ya (by (with_reducible constructor) <;> first | rfl | decide) ?_ | apply yb | refine yc rfl ?_ | ((first | apply yd | apply ye); simp (disch := first | exact List.all_nil | omega | (simp only [go_sem]; done) | (simp only [ln, List.length_map]; omega) | (repeat' first | assumption | exact Ext.refl _ | refine Ext.app ?_ _)) only [go_sem]; with_reducible rfl))))
        refine cond_p rfl (fun hx => ?_) (fun hx => ?_)
        · have hd := D2.done2 hu' hst hx
          ((repeat (first | refine ya (by (with_reducible constructor) <;> first | rfl | decide) ?_ | apply yb | refine yc rfl ?_ | ((first | apply yd | apply ye); simp (disch := first | exact List.all_nil | omega | (simp only [go_sem]; done) | (simp only [ln, List.length_map]; omega) | (repeat' first | assumption | exact Ext.refl _ | refine Ext.app ?_ _)) only [go_sem]; with_reducible rfl))))
          exact ⟨rfl, rfl, by rw [← hd]; simp [forget]⟩
        · ((repeat (first | refine ya (by (with_reducible constructor) <;> first | rfl | decide) ?_ | apply yb | refine yc rfl ?_ | ((first | apply yd | apply ye); simp (disch := first | exact List.all_nil | omega | (simp only [go_sem]; done) | (simp only [ln, List.length_map]; omega) | (repeat' first | assumption | exact Ext.refl _ | refine Ext.app ?_ _)) only [go_sem]; with_reducible rfl))))
          exact ⟨(q - 1).toNat, by omega, rfl, q - 1, r + y1, rfl, hu', hst, by omega, by simp [forget]⟩
      · have hd := D2.done hu hq (by omega)
        ((repeat (first | refine ya (by (with_reducible constructor) <;> first | rfl | decide) ?_ | apply yb | refine yc rfl ?_ | ((first | apply yd | apply ye); simp (disch := first | exact List.all_nil | omega | (simp only [go_sem]; done) | (simp only [ln, List.length_map]; omega) | (repeat' first | assumption | exact Ext.refl _ | refine Ext.app ?_ _)) only [go_sem]; with_reducible rfl))))
        exact ⟨rfl, rfl, by rw [← hd]; simp [forget]⟩
  rintro e K ⟨rfl, rfl⟩
  have hfl2 := left_flow D2 hV2 rfl
  obtain ⟨Q0, hQ0⟩ : ∃ z, quoD y1 y0 R1 U0 = z := ⟨_, rfl⟩
  obtain ⟨R0, hR0⟩ : ∃ z, (R1 * 4294967296 + U0) % V = z := ⟨_, rfl⟩
  have hQ0b : 0 ≤ Q0 ∧ Q0 < 4294967296 := by rw [← hQ0]; exact ⟨D2.quo_nn, D2.quo_lt⟩
  rw [hR0, hQ0] at hfl2
  rw [hQ0]
  have hR0b : 0 ≤ R0 ∧ R0 < V := by rw [← hR0]; exact ⟨Int.emod_nonneg _ (by omega), Int.emod_lt_of_pos _ (by omega)⟩
  have hend := hdiv U32 U1 U0 Q1 Q0 R1 R0 (by rw [hUs, hUd, hLd]; omega) (by
    rw [hVd, ← hQ1, ← hR1, hV2]
    have := Int.mul_ediv_add_emod (U32 * 4294967296 + U1) (y1 * 4294967296 + y0)
    rw [Int.mul_comm] at this
    unfold quoD; omega) (by
    rw [hVd, ← hQ0, ← hR0, hV2]
    have := Int.mul_ediv_add_emod (R1 * 4294967296 + U0) (y1 * 4294967296 + y0)
    rw [Int.mul_comm] at this
    unfold quoD; omega) (by rw [hVd]; exact hR0b)
  have hshr2 : ∀ J : AHeap, shrR (.int .u64 R0) (.int .u64 (s : Int)) J = some (.int .u64 (R0 / ((2 ^ s : Nat) : Int)), J) := fun J => by rw [shr_u hR0b.1 (by omega) (by omega), Int.toNat_natCast]
  ((repeat (first | refine ya (by (with_reducible constructor) <;> first | rfl | decide) ?_ | apply yb | refine yc rfl ?_ | ((first | apply yd | apply ye); simp (disch := first | exact List.all_nil | omega | (simp only [go_sem]; done) | (simp only [ln, List.length_map]; omega) | (repeat' first | assumption | exact Ext.refl _ | refine Ext.app ?_ _)) only [go_sem, hfl2, hshr2]; with_reducible rfl))))
  refine fin_2 ⟨?_, rfl⟩
  show Value.tuple #[.int .u64 (Q1 * 4294967296 + Q0), .int .u64 (R0 / ((2 ^ s : Nat) : Int))] = _
  rw [hend.1, hend.2]
end
end Go.Lq

namespace Go.Lq
open Go
open Go.Proofs

def posRes (l : List (Int × Int)) (t : Int) : Option Nat → (Int × Int) × Int
  | none => ((0, 0), 2)
  | some i => ((posLo (pieceOf l i) t, posHi (pieceOf l i) t), 0)
def posAtL (l : List (Int × Int)) (t : Int) : (Int × Int) × Int := if mapErrL l = 0 then posRes l t (findP (inTime t) l 0 (l.length - 1)) else ((0, 0), mapErrL l)
theorem conv_iu64 {n : Int} {H : AHeap} (h : 0 ≤ n) (h2 : n < 18446744073709551616) : convR .u64 (.int .i64 n) H = some (.int .u64 n, H) := by
  have : IntKind.u64.wrap n = n := by
    show wu n = n
    exact wu_id h h2
  simp [convR, this]

theorem conv_ui64 {n : Int} {H : AHeap} (h : 0 ≤ n) (h2 : n ≤ 1000000000000000) : convR .i64 (.int .u64 n) H = some (.int .i64 n, H) := by
  have : IntKind.i64.wrap n = n := by
    show w64 n = n
    exact w64_id (by omega) (by omega)
  simp [convR, this]
theorem fill1v {x v : Value} (h : isAtom v = true) : fillA [x] [(0, 1, .agg ⟨[v]⟩)] = some [v] := by
  have e1 : (Value.agg ⟨[v]⟩).cells = ⟨[v]⟩ := rfl
  simp [fillA, e1, h, setCells]
section
variable {H : AHeap}
theorem positionAt1_c {t : Int} {q : (Int × Int) × (Int × Int)} {id : Nat} (h : H[id]? = some (.cells true 0 [.int .i64 t])) : ACall Go.Proofs.Tryd.prog 150 [pieceV q, .pointer (some ⟨id, 0, none⟩)] H fun v H' => v = .bool (inTime t q) ∧ H' = H := by
  refine ACall.drop (.bool _) ?_
  (refine a150 ?_; simp only [n150, List.replicate, List.length_cons, List.length_nil, List.cons_append, List.nil_append]; first | refine q1 ?_ | refine q2 ?_ | refine q6 ?_ | refine q7 ?_ | refine qh rfl ?_ | skip)
  have g0 : (H ++ [AObj.cells true 0 (pieceC q)])[H.length]? = some (.cells true 0 (pieceC q)) := at_new
  have xG : Ext H (H ++ [AObj.cells true 0 (pieceC q)]) := (Ext.refl H).app _
  have h1 := xG.cell h
  (repeat (first | refine ya (by (with_reducible constructor) <;> first | rfl | decide) ?_ | (apply yd; simp (disch := first | exact List.all_nil | omega | (simp only [go_sem]; done) | (simp only [ln, List.length_map]; omega) | (repeat' first | assumption | exact Ext.refl _ | refine Ext.app ?_ _)) only [go_sem, box_piece]; with_reducible rfl)))
  generalize (H ++ [AObj.cells true 0 (pieceC q)] : AHeap) = G at g0 xG h1
  ((repeat (first | refine ya (by (with_reducible constructor) <;> first | rfl | decide) ?_ | apply yb | refine yc rfl ?_ | ((first | apply yd | apply ye); simp (disch := first | exact List.all_nil | omega | (simp only [go_sem]; done) | (simp only [ln, List.length_map]; omega) | (repeat' first | assumption | exact Ext.refl _ | refine Ext.app ?_ _)) only [go_sem, load_at g0, load_at h1, pieceC]; with_reducible rfl))))
  refine aops_call_to (swithin_c _ _ _) ?_
  ((repeat (first | refine ya (by (with_reducible constructor) <;> first | rfl | decide) ?_ | apply yb | refine yc rfl ?_ | ((first | apply yd | apply ye); simp (disch := first | exact List.all_nil | omega | (simp only [go_sem]; done) | (simp only [ln, List.length_map]; omega) | (repeat' first | assumption | exact Ext.refl _ | refine Ext.app ?_ _)) only [go_sem]; with_reducible rfl))))
  exact fin_1 ⟨rfl, xG⟩
set_option maxHeartbeats 4000000 in
theorem positionAt_c {l : List (Int × Int)} {v : Value} {t : Int} (hl : Pairs H l v) (hb : l.length ≤ 1000000000) : ACall Go.Proofs.Tryd.prog 148 [.agg ⟨[v]⟩, .int .i64 t] H fun w H' =>
    w = .tuple #[fracV (posAtL l t).1, .int .i64 (posAtL l t).2] ∧ H' = H := by
  refine ACall.drop (closed_frac1 _ _) ?_
  (refine a148 ?_; simp only [n148, List.replicate, List.length_cons, List.length_nil, List.cons_append, List.nil_append]; first | refine Go.Lq.q1 ?_ | refine Go.Lq.q2 ?_ | refine Go.Lq.q6 ?_ | refine Go.Lq.q7 ?_ | refine Go.Lq.qh rfl ?_ | skip)
  obtain ⟨G, hG⟩ : ∃ G, G = H ++ [AObj.cells true 0 [v]] ++ [AObj.cells true 0 [.int .i64 t]] ++ [AObj.cells true 0 [.int .i64 0, .int .i64 0]] := ⟨_, rfl⟩
  have g0 : G[H.length]? = some (.cells true 0 [v]) := by rw [hG]; simp
  have g1 : G[H.length + 1]? = some (.cells true 0 [.int .i64 t]) := by rw [hG]; simp
  have g2 : G[H.length + 2]? = some (.cells true 0 [.int .i64 0, .int .i64 0]) := by rw [hG]; simp
  have xG : Ext H G := by rw [hG]; exact (((Ext.refl H).app _).app _).app _
  have lG : G.length = H.length + 3 := by rw [hG]; simp
  have hf1 : fillA [.slice none 0 0] [(0, 1, .agg ⟨[v]⟩)] = some [v] := fill1v hl.atom
  have hms : ∀ J : AHeap, mkSliceL 1 1 (some [v]) J = some (.slice (some ⟨J.length, 0, none⟩) 1 1, J ++ [.cells true 1 [v]]) := fun J => mkSliceL_some (by simp [hl.atom])
  have hbi : ∀ J : AHeap, boxR (.int .i64 t) J = some (.pointer (some ⟨J.length, 0, none⟩), J ++ [.cells true 0 [.int .i64 t]]) := fun J => rfl
  (repeat (first | refine ya (by (with_reducible constructor) <;> first | rfl | decide) ?_ | (apply yd; simp (disch := first | exact List.all_nil | omega | (simp only [go_sem]; done) | (simp only [ln, List.length_map]; omega) | (repeat' first | assumption | exact Ext.refl _ | refine Ext.app ?_ _)) only [go_sem, hl.box1, hbi]; with_reducible rfl)))
  (simp only [List.length_append, List.length_cons, List.length_nil, Nat.zero_add, Nat.add_assoc, Nat.reduceAdd])
  rw [← hG]
  clear hG
  ((repeat (first | refine ya (by (with_reducible constructor) <;> first | rfl | decide) ?_ | apply yb | refine yc rfl ?_ | ((first | apply yd | apply ye); simp (disch := first | exact List.all_nil | omega | (simp only [go_sem]; done) | (simp only [ln, List.length_map]; omega) | (repeat' first | assumption | exact Ext.refl _ | refine Ext.app ?_ _)) only [go_sem, n1_at g0, hf1, hms]; with_reducible rfl))))
  have hS : Sl (G ++ [AObj.cells true 1 [v]]) 1 1 [v] (.slice (some ⟨G.length, 0, none⟩) 1 1) := Sl.last rfl 1
  have x2 : Ext G (G ++ [AObj.cells true 1 [v]]) := (Ext.refl G).app _
  generalize (G ++ [AObj.cells true 1 [v]] : AHeap) = G2 at hS x2
  have xH2 := xG.trans x2
  have k0 := x2.cell g0
  have k1 := x2.cell g1
  have k2 := x2.cell g2
  refine aops_call_to (spMapErr_c hS (hl.ext xH2) hb) ?_
  ((repeat (first | refine ya (by (with_reducible constructor) <;> first | rfl | decide) ?_ | apply yb | refine yc rfl ?_ | ((first | apply yd | apply ye); simp (disch := first | exact List.all_nil | omega | (simp only [go_sem]; done) | (simp only [ln, List.length_map]; omega) | (repeat' first | assumption | exact Ext.refl _ | refine Ext.app ?_ _)) only [go_sem]; with_reducible rfl))))
  refine cond_p rfl (fun hne => ?_) (fun heq => ?_)
  · have ev : posAtL l t = ((0, 0), mapErrL l) := by unfold posAtL; rw [if_neg hne]
    rw [ev]
    ((repeat (first | refine ya (by (with_reducible constructor) <;> first | rfl | decide) ?_ | apply yb | refine yc rfl ?_ | ((first | apply yd | apply ye); simp (disch := first | exact List.all_nil | omega | (simp only [go_sem]; done) | (simp only [ln, List.length_map]; omega) | (repeat' first | assumption | exact Ext.refl _ | refine Ext.app ?_ _)) only [go_sem, fill_none, store_b2 k2]; with_reducible rfl))))
    refine fin_l2f rfl (get_set_self k2) ⟨rfl, xH2.set (by omega) _⟩
  have hz := Decidable.not_not.1 heq
  have hok := mapErr_ok hz
  have h20 := hok.hi
  have h02 := hok.lo
  have ev : posAtL l t = posRes l t (findP (inTime t) l 0 (l.length - 1)) := by unfold posAtL; rw [if_pos hz]
  ((repeat (first | refine ya (by (with_reducible constructor) <;> first | rfl | decide) ?_ | apply yb | refine yc rfl ?_ | ((first | apply yd | apply ye); simp (disch := first | exact List.all_nil | omega | (simp only [go_sem]; done) | (simp only [ln, List.length_map]; omega) | (repeat' first | assumption | exact Ext.refl _ | refine Ext.app ?_ _)) only [go_sem, n1_at k0]; with_reducible rfl))))
  refine aops_call_to (find_c (g := 150) (ad := ⟨H.length + 1, 0, none⟩) (p := inTime t) (hl.ext xH2) (by omega) (by omega) (fun J hJ i hi => positionAt1_c (hJ.cell k1))) ?_
  obtain ⟨o, ho⟩ : ∃ o, findP (inTime t) l 0 (l.length - 1) = o := ⟨_, rfl⟩
  rw [ho] at ev ⊢
  have hst : storeR 4 (.pointer (some ⟨G2.length, 0, none⟩)) (pieceV (findR o l).1) (G2 ++ [.cells true 0 [.int .i64 0, .int .i64 0, .int .i64 0, .int .i64 0]]) = some (undef, G2 ++ [.cells true 0 (pieceC (findR o l).1)]) := store_new4 rfl
  ((repeat (first | refine ya (by (with_reducible constructor) <;> first | rfl | decide) ?_ | apply yb | refine yc rfl ?_ | ((first | apply yd | apply ye); simp (disch := first | exact List.all_nil | omega | (simp only [go_sem]; done) | (simp only [ln, List.length_map]; omega) | (repeat' first | assumption | exact Ext.refl _ | refine Ext.app ?_ _)) only [go_sem, hst]; with_reducible rfl))))
  have b7 : (G2 ++ [AObj.cells true 0 (pieceC (findR o l).1)])[G2.length]? = some (.cells true 0 (pieceC (findR o l).1)) := at_new
  have x3 : Ext G2 (G2 ++ [AObj.cells true 0 (pieceC (findR o l).1)]) := (Ext.refl G2).app _
  generalize (G2 ++ [AObj.cells true 0 (pieceC (findR o l).1)] : AHeap) = G3 at b7 x3
  have xH3 := xH2.trans x3
  have j1 := x3.cell k1
  have j2 := x3.cell k2
  cases o with
  | none =>
    rw [ev]
    ((repeat (first | refine ya (by (with_reducible constructor) <;> first | rfl | decide) ?_ | apply yb | refine yc rfl ?_ | ((first | apply yd | apply ye); simp (disch := first | exact List.all_nil | omega | (simp only [go_sem]; done) | (simp only [ln, List.length_map]; omega) | (repeat' first | assumption | exact Ext.refl _ | refine Ext.app ?_ _)) only [go_sem, findR]; with_reducible rfl))))
    refine cond_t rfl ?_
    ((repeat (first | refine ya (by (with_reducible constructor) <;> first | rfl | decide) ?_ | apply yb | refine yc rfl ?_ | ((first | apply yd | apply ye); simp (disch := first | exact List.all_nil | omega | (simp only [go_sem]; done) | (simp only [ln, List.length_map]; omega) | (repeat' first | assumption | exact Ext.refl _ | refine Ext.app ?_ _)) only [go_sem, fill_none, store_b2 j2]; with_reducible rfl))))
    refine fin_l2f rfl (get_set_self j2) ⟨rfl, xH3.set (by omega) _⟩
  | some i =>
    obtain ⟨_, f2, f3, _⟩ := findP_some ho
    have hin : (pieceOf l i).1.2 ≤ t ∧ t ≤ (pieceOf l i).2.2 := of_decide_eq_true f3
    have b7' : G3[G2.length]? = some (.cells true 0 (pieceC (pieceOf l i))) := b7
    have p1 : 0 ≤ (pieceOf l i).1.1 ∧ (pieceOf l i).1.1 ≤ 1000000 := hok.pos i (by omega)
    have p2 : 0 ≤ (pieceOf l i).2.1 ∧ (pieceOf l i).2.1 ≤ 1000000 := hok.pos (i + 1) (by omega)
    have p3 : 0 ≤ (pieceOf l i).1.2 ∧ (pieceOf l i).1.2 ≤ 1000000000000 := hok.time i (by omega)
    have p4 : 0 ≤ (pieceOf l i).2.2 ∧ (pieceOf l i).2.2 ≤ 1000000000000 := hok.time (i + 1) (by omega)
    have p5 : (pieceOf l i).1.1 < (pieceOf l i).2.1 := hok.posUp i (by omega)
    have p6 : (pieceOf l i).1.2 < (pieceOf l i).2.2 := hok.timeUp i (by omega)
    have ev2 : posRes l t (some i) = ((posLo (pieceOf l i) t, posHi (pieceOf l i) t), 0) := rfl
    rw [ev, ev2]
    have ef : (findR (some i) l) = (pieceOf l i, true) := rfl
    rw [ef]
    generalize pieceOf l i = p at *
    ((repeat (first | refine ya (by (with_reducible constructor) <;> first | rfl | decide) ?_ | apply yb | refine yc rfl ?_ | ((first | apply yd | apply ye); simp (disch := first | exact List.all_nil | omega | (simp only [go_sem]; done) | (simp only [ln, List.length_map]; omega) | (repeat' first | assumption | exact Ext.refl _ | refine Ext.app ?_ _)) only [go_sem]; with_reducible rfl))))
    refine cond_f rfl ?_
    obtain ⟨x, hx⟩ : ∃ x, t - p.1.2 = x := ⟨_, rfl⟩
    obtain ⟨y, hy⟩ : ∃ y, 64 * (p.2.1 - p.1.1) = y := ⟨_, rfl⟩
    obtain ⟨d, hd⟩ : ∃ d, p.2.2 - p.1.2 = d := ⟨_, rfl⟩
    have m1 : 0 ≤ x * y := Int.mul_nonneg (by omega) (by omega)
    have m2 : x * y ≤ d * 64000000 := Int.le_trans (Int.mul_le_mul_of_nonneg_right (show x ≤ d by omega) (by omega)) (Int.mul_le_mul_of_nonneg_left (by omega) (by omega))
    have hN : posN p t = x * y := by unfold posN; rw [hx, hy]
    have q1 : x * y / d ≤ 64000000 := Int.ediv_le_of_le_mul (by omega) (by rw [Int.mul_comm 64000000 d]; exact m2)
    have q0 : 0 ≤ x * y / d := Int.ediv_nonneg m1 (by omega)
    ((repeat (first | refine ya (by (with_reducible constructor) <;> first | rfl | decide) ?_ | apply yb | refine yc rfl ?_ | ((first | apply yd | apply ye); simp (disch := first | exact List.all_nil | omega | (simp only [go_sem]; done) | (simp only [ln, List.length_map]; omega) | (repeat' first | assumption | exact Ext.refl _ | refine Ext.app ?_ _)) only [go_sem, load_at j1, load_at b7', load_piece b7', pieceC, hx, conv_iu64 (n := x) (by omega) (by omega)]; with_reducible rfl))))
    refine adraw_call (N := []) (firstD (positions_c (by omega))) ?_
    rw [List.append_nil]
    ((repeat (first | refine ya (by (with_reducible constructor) <;> first | rfl | decide) ?_ | apply yb | refine yc rfl ?_ | ((first | apply yd | apply ye); simp (disch := first | exact List.all_nil | omega | (simp only [go_sem]; done) | (simp only [ln, List.length_map]; omega) | (repeat' first | assumption | exact Ext.refl _ | refine Ext.app ?_ _)) only [go_sem, hy, conv_iu64 (n := y) (by omega) (by omega)]; with_reducible rfl))))
    refine adraw_call (N := []) (firstD (mul64_c ⟨by omega, by omega⟩ ⟨by omega, by omega⟩)) ?_
    rw [List.append_nil]
    ((repeat (first | refine ya (by (with_reducible constructor) <;> first | rfl | decide) ?_ | apply yb | refine yc rfl ?_ | ((first | apply yd | apply ye); simp (disch := first | exact List.all_nil | omega | (simp only [go_sem]; done) | (simp only [ln, List.length_map]; omega) | (repeat' first | assumption | exact Ext.refl _ | refine Ext.app ?_ _)) only [go_sem, load_piece b7']; with_reducible rfl))))
    refine aops_call_to (times_c (by omega)) ?_
    ((repeat (first | refine ya (by (with_reducible constructor) <;> first | rfl | decide) ?_ | apply yb | refine yc rfl ?_ | ((first | apply yd | apply ye); simp (disch := first | exact List.all_nil | omega | (simp only [go_sem]; done) | (simp only [ln, List.length_map]; omega) | (repeat' first | assumption | exact Ext.refl _ | refine Ext.app ?_ _)) only [go_sem, hd, conv_iu64 (n := d) (by omega) (by omega)]; with_reducible rfl))))
    obtain ⟨z, hz2⟩ : ∃ z, x * y = z := ⟨_, rfl⟩
    rw [hz2] at m1 m2 q1 q0 hN ⊢
    have hd1 : z / 18446744073709551616 < d := by omega
    refine aops_call_to (div64_c (hi := z / 18446744073709551616) (lo := z % 18446744073709551616) (y := d) ⟨by omega, hd1⟩ ⟨by omega, by omega⟩ (by omega)) ?_
    have ez : z / 18446744073709551616 * 18446744073709551616 + z % 18446744073709551616 = z := by omega
    rw [ez]
    obtain ⟨q, hq⟩ : ∃ q, z / d = q := ⟨_, rfl⟩
    rw [hq] at q1 q0 ⊢
    have elo : posLo p t = 64 * p.1.1 + q := by unfold posLo; rw [hN, hd, hq]
    ((repeat (first | refine ya (by (with_reducible constructor) <;> first | rfl | decide) ?_ | apply yb | refine yc rfl ?_ | ((first | apply yd | apply ye); simp (disch := first | exact List.all_nil | omega | (simp only [go_sem]; done) | (simp only [ln, List.length_map]; omega) | (repeat' first | assumption | exact Ext.refl _ | refine Ext.app ?_ _)) only [go_sem, load_at b7', pieceC, conv_ui64 (n := q) (by omega) (by omega)]; with_reducible rfl))))
    refine cond_p rfl (fun hr => ?_) (fun hr => ?_)
    · have ehi : posHi p t = 64 * p.1.1 + q := by unfold posHi; rw [hN, hd, if_pos hr, elo]
      rw [elo, ehi]
      ((repeat (first | refine ya (by (with_reducible constructor) <;> first | rfl | decide) ?_ | apply yb | refine yc rfl ?_ | ((first | apply yd | apply ye); simp (disch := first | exact List.all_nil | omega | (simp only [go_sem]; done) | (simp only [ln, List.length_map]; omega) | (repeat' first | assumption | exact Ext.refl _ | refine Ext.app ?_ _)) only [go_sem, fill2i, store_b2 j2]; with_reducible rfl))))
      refine fin_l2f rfl (get_set_self j2) ⟨rfl, xH3.set (by omega) _⟩
    · have ehi : posHi p t = 64 * p.1.1 + q + 1 := by unfold posHi; rw [hN, hd, if_neg hr, elo]
      rw [elo, ehi]
      ((repeat (first | refine ya (by (with_reducible constructor) <;> first | rfl | decide) ?_ | apply yb | refine yc rfl ?_ | ((first | apply yd | apply ye); simp (disch := first | exact List.all_nil | omega | (simp only [go_sem]; done) | (simp only [ln, List.length_map]; omega) | (repeat' first | assumption | exact Ext.refl _ | refine Ext.app ?_ _)) only [go_sem, fill2i, store_b2 j2]; with_reducible rfl))))
      refine fin_l2f rfl (get_set_self j2) ⟨rfl, xH3.set (by omega) _⟩
end
end Go.Lq


namespace Go.Lq
open Go
open Go.Proofs

def ratioErrL (num den step : Int) (n : Nat) : Int := firstErr [(if (1 ≤ num ∧ num ≤ 1000) ∧ (1 ≤ den ∧ den ≤ 1000) then 0 else 2), (if step = 0 ∧ (n : Int) = 0 then 0 else 3)]
def curveErrL (l : List (Int × Int)) (step num den : Int) : Int := firstErr [mapErrL l, (if 1 ≤ step ∧ step ≤ 1000000000000 then 0 else 2), (if num = 0 ∧ den = 0 then 0 else 3)]
def rulesErrL (kind deg num den step : Int) (l : List (Int × Int)) : Int :=
  if 0 ≤ kind ∧ kind ≤ 1 then (if degErrL deg = 0 then (if kind = 0 then ratioErrL num den step l.length else curveErrL l step num den) else degErrL deg) else 15
def rulesC (kind deg num den step : Int) (v : Value) : List Value := [.int .i64 kind, .int .i64 deg, .int .i64 num, .int .i64 den, .int .i64 step, v]
def rulesV (kind deg num den step : Int) (v : Value) : Value := .agg ⟨[.int .i64 kind, .int .i64 deg, .int .i64 num, .int .i64 den, .int .i64 step, v]⟩

section
variable {H : AHeap} {kind deg num den step : Int} {l : List (Int × Int)} {v : Value}
theorem box_rules (hv : isAtom v = true) : boxR (rulesV kind deg num den step v) H = some (.pointer (some ⟨H.length, 0, none⟩), H ++ [.cells true 0 (rulesC kind deg num den step v)]) := box_agg (by simp [hv, isAtom_int])
theorem checkRules1_c (n : Int) : ACall Go.Proofs.Tryd.prog 96 [.int .i64 n] H fun w H' => w = .bool (decide (1 ≤ n ∧ n ≤ 1000)) ∧ H' = H := by
  (refine a96 ?_; simp only [n96, List.replicate, List.length_cons, List.length_nil, List.cons_append, List.nil_append]; first | refine q1 ?_ | refine q2 ?_ | refine q6 ?_ | refine q7 ?_ | refine qh rfl ?_ | skip)
  ((repeat (first | refine ya (by (with_reducible constructor) <;> first | rfl | decide) ?_ | apply yb | refine yc rfl ?_ | ((first | apply yd | apply ye); simp (disch := first | exact List.all_nil | omega | (simp only [go_sem]; done) | (simp only [ln, List.length_map]; omega) | (repeat' first | assumption | exact Ext.refl _ | refine Ext.app ?_ _)) only [go_sem]; with_reducible rfl))))
  refine aops_call_to (within_c _ _ _) ?_
  ((repeat (first | refine ya (by (with_reducible constructor) <;> first | rfl | decide) ?_ | apply yb | refine yc rfl ?_ | ((first | apply yd | apply ye); simp (disch := first | exact List.all_nil | omega | (simp only [go_sem]; done) | (simp only [ln, List.length_map]; omega) | (repeat' first | assumption | exact Ext.refl _ | refine Ext.app ?_ _)) only [go_sem]; with_reducible rfl))))
  exact fin_1 ⟨rfl, rfl⟩
theorem load_map {G : AHeap} {id : Nat} (h : G[id]? = some (.cells true 0 (rulesC kind deg num den step v))) : loadNR 1 (.pointer (some ⟨id, 5, none⟩)) G = some (.agg ⟨[v]⟩, G) := loadN_at h (by simp [rulesC])
set_option maxHeartbeats 4000000 in
theorem rRulesErr_c (hl : Pairs H l v) (hb : l.length ≤ 1000000000) : ACall Go.Proofs.Tryd.prog 32 [rulesV kind deg num den step v] H fun w H' => w = .int .i64 (rulesErrL kind deg num den step l) ∧ H' = H := by
  refine ACall.drop (.int _ _) ?_
  (refine a32 ?_; simp only [n32, List.replicate, List.length_cons, List.length_nil, List.cons_append, List.nil_append]; first | refine q1 ?_ | refine q2 ?_ | refine q6 ?_ | refine q7 ?_ | refine qh rfl ?_ | skip)
  have g0 : (H ++ [AObj.cells true 0 (rulesC kind deg num den step v)])[H.length]? = some (.cells true 0 (rulesC kind deg num den step v)) := at_new
  have xG : Ext H (H ++ [AObj.cells true 0 (rulesC kind deg num den step v)]) := (Ext.refl H).app _
  (repeat (first | refine ya (by (with_reducible constructor) <;> first | rfl | decide) ?_ | (apply yd; simp (disch := first | exact List.all_nil | omega | (simp only [go_sem]; done) | (simp only [ln, List.length_map]; omega) | (repeat' first | assumption | exact Ext.refl _ | refine Ext.app ?_ _)) only [go_sem, box_rules hl.atom]; with_reducible rfl)))
  generalize (H ++ [AObj.cells true 0 (rulesC kind deg num den step v)] : AHeap) = G at g0 xG
  have hl1 := hl.ext xG
  ((repeat (first | refine ya (by (with_reducible constructor) <;> first | rfl | decide) ?_ | apply yb | refine yc rfl ?_ | ((first | apply yd | apply ye); simp (disch := first | exact List.all_nil | omega | (simp only [go_sem]; done) | (simp only [ln, List.length_map]; omega) | (repeat' first | assumption | exact Ext.refl _ | refine Ext.app ?_ _)) only [go_sem, load_at g0, rulesC]; with_reducible rfl))))
  refine aops_call_to (bwithin_c _ _ _) ?_
  by_cases hk : 0 ≤ kind ∧ kind ≤ 1
  rotate_left 1
  · have ev : rulesErrL kind deg num den step l = 15 := by unfold rulesErrL; rw [if_neg hk]
    rw [ev]
    ((repeat (first | refine ya (by (with_reducible constructor) <;> first | rfl | decide) ?_ | apply yb | refine yc rfl ?_ | ((first | apply yd | apply ye); simp (disch := first | exact List.all_nil | omega | (simp only [go_sem]; done) | (simp only [ln, List.length_map]; omega) | (repeat' first | assumption | exact Ext.refl _ | refine Ext.app ?_ _)) only [go_sem, dec_f hk]; with_reducible rfl))))
    refine cond_t rfl ?_
    ((repeat (first | refine ya (by (with_reducible constructor) <;> first | rfl | decide) ?_ | apply yb | refine yc rfl ?_ | ((first | apply yd | apply ye); simp (disch := first | exact List.all_nil | omega | (simp only [go_sem]; done) | (simp only [ln, List.length_map]; omega) | (repeat' first | assumption | exact Ext.refl _ | refine Ext.app ?_ _)) only [go_sem]; with_reducible rfl))))
    exact fin_1 ⟨rfl, xG⟩
  ((repeat (first | refine ya (by (with_reducible constructor) <;> first | rfl | decide) ?_ | apply yb | refine yc rfl ?_ | ((first | apply yd | apply ye); simp (disch := first | exact List.all_nil | omega | (simp only [go_sem]; done) | (simp only [ln, List.length_map]; omega) | (repeat' first | assumption | exact Ext.refl _ | refine Ext.app ?_ _)) only [go_sem, dec_t hk]; with_reducible rfl))))
  refine cond_f rfl ?_
  ((repeat (first | refine ya (by (with_reducible constructor) <;> first | rfl | decide) ?_ | apply yb | refine yc rfl ?_ | ((first | apply yd | apply ye); simp (disch := first | exact List.all_nil | omega | (simp only [go_sem]; done) | (simp only [ln, List.length_map]; omega) | (repeat' first | assumption | exact Ext.refl _ | refine Ext.app ?_ _)) only [go_sem, load_at g0, rulesC]; with_reducible rfl))))
  refine aops_call_to (refDegreeErr_c _) ?_
  by_cases hd : degErrL deg = 0
  rotate_left 1
  · have ev : rulesErrL kind deg num den step l = degErrL deg := by unfold rulesErrL; rw [if_pos hk, if_neg hd]
    rw [ev]
    ((repeat (first | refine ya (by (with_reducible constructor) <;> first | rfl | decide) ?_ | apply yb | refine yc rfl ?_ | ((first | apply yd | apply ye); simp (disch := first | exact List.all_nil | omega | (simp only [go_sem]; done) | (simp only [ln, List.length_map]; omega) | (repeat' first | assumption | exact Ext.refl _ | refine Ext.app ?_ _)) only [go_sem, dec_t (show degErrL deg ≠ 0 from hd)]; with_reducible rfl))))
    refine cond_t rfl ?_
    ((repeat (first | refine ya (by (with_reducible constructor) <;> first | rfl | decide) ?_ | apply yb | refine yc rfl ?_ | ((first | apply yd | apply ye); simp (disch := first | exact List.all_nil | omega | (simp only [go_sem]; done) | (simp only [ln, List.length_map]; omega) | (repeat' first | assumption | exact Ext.refl _ | refine Ext.app ?_ _)) only [go_sem]; with_reducible rfl))))
    exact fin_1 ⟨rfl, xG⟩
  ((repeat (first | refine ya (by (with_reducible constructor) <;> first | rfl | decide) ?_ | apply yb | refine yc rfl ?_ | ((first | apply yd | apply ye); simp (disch := first | exact List.all_nil | omega | (simp only [go_sem]; done) | (simp only [ln, List.length_map]; omega) | (repeat' first | assumption | exact Ext.refl _ | refine Ext.app ?_ _)) only [go_sem, hd]; with_reducible rfl))))
  refine cond_f rfl ?_
  by_cases h0 : kind = 0
  · have ev : rulesErrL kind deg num den step l = ratioErrL num den step l.length := by unfold rulesErrL; rw [if_pos hk, if_pos hd, if_pos h0]
    rw [ev]
    ((repeat (first | refine ya (by (with_reducible constructor) <;> first | rfl | decide) ?_ | apply yb | refine yc rfl ?_ | ((first | apply yd | apply ye); simp (disch := first | exact List.all_nil | omega | (simp only [go_sem]; done) | (simp only [ln, List.length_map]; omega) | (repeat' first | assumption | exact Ext.refl _ | refine Ext.app ?_ _)) only [go_sem, load_at g0, rulesC, dec_t h0]; with_reducible rfl))))
    refine cond_t rfl ?_
    ((repeat (first | refine ya (by (with_reducible constructor) <;> first | rfl | decide) ?_ | apply yb | refine yc rfl ?_ | ((first | apply yd | apply ye); simp (disch := first | exact List.all_nil | omega | (simp only [go_sem]; done) | (simp only [ln, List.length_map]; omega) | (repeat' first | assumption | exact Ext.refl _ | refine Ext.app ?_ _)) only [go_sem, load_at g0, rulesC]; with_reducible rfl))))
    refine aops_call_to (bwithin_c _ _ _) ?_
    by_cases hn : 1 ≤ num ∧ num ≤ 1000
    rotate_left 1
    · have e2 : ratioErrL num den step l.length = 2 := by unfold ratioErrL; rw [if_neg (fun h => hn h.1)]; exact firstErr_e (by decide) _
      rw [e2]
      ((repeat (first | refine ya (by (with_reducible constructor) <;> first | rfl | decide) ?_ | apply yb | refine yc rfl ?_ | ((first | apply yd | apply ye); simp (disch := first | exact List.all_nil | omega | (simp only [go_sem]; done) | (simp only [ln, List.length_map]; omega) | (repeat' first | assumption | exact Ext.refl _ | refine Ext.app ?_ _)) only [go_sem, dec_f hn]; with_reducible rfl))))
      refine cond_t rfl ?_
      ((repeat (first | refine ya (by (with_reducible constructor) <;> first | rfl | decide) ?_ | apply yb | refine yc rfl ?_ | ((first | apply yd | apply ye); simp (disch := first | exact List.all_nil | omega | (simp only [go_sem]; done) | (simp only [ln, List.length_map]; omega) | (repeat' first | assumption | exact Ext.refl _ | refine Ext.app ?_ _)) only [go_sem]; with_reducible rfl))))
      exact fin_1 ⟨rfl, xG⟩
    ((repeat (first | refine ya (by (with_reducible constructor) <;> first | rfl | decide) ?_ | apply yb | refine yc rfl ?_ | ((first | apply yd | apply ye); simp (disch := first | exact List.all_nil | omega | (simp only [go_sem]; done) | (simp only [ln, List.length_map]; omega) | (repeat' first | assumption | exact Ext.refl _ | refine Ext.app ?_ _)) only [go_sem, dec_t hn, load_at g0, rulesC]; with_reducible rfl))))
    refine aops_call_to (bwithin_c _ _ _) ?_
    by_cases hn2 : 1 ≤ den ∧ den ≤ 1000
    rotate_left 1
    · have e2 : ratioErrL num den step l.length = 2 := by unfold ratioErrL; rw [if_neg (fun h => hn2 h.2)]; exact firstErr_e (by decide) _
      rw [e2]
      ((repeat (first | refine ya (by (with_reducible constructor) <;> first | rfl | decide) ?_ | apply yb | refine yc rfl ?_ | ((first | apply yd | apply ye); simp (disch := first | exact List.all_nil | omega | (simp only [go_sem]; done) | (simp only [ln, List.length_map]; omega) | (repeat' first | assumption | exact Ext.refl _ | refine Ext.app ?_ _)) only [go_sem, dec_t hn, dec_f hn2]; with_reducible rfl))))
      refine cond_t rfl ?_
      ((repeat (first | refine ya (by (with_reducible constructor) <;> first | rfl | decide) ?_ | apply yb | refine yc rfl ?_ | ((first | apply yd | apply ye); simp (disch := first | exact List.all_nil | omega | (simp only [go_sem]; done) | (simp only [ln, List.length_map]; omega) | (repeat' first | assumption | exact Ext.refl _ | refine Ext.app ?_ _)) only [go_sem]; with_reducible rfl))))
      exact fin_1 ⟨rfl, xG⟩
    have e3 : ratioErrL num den step l.length = if step = 0 ∧ (l.length : Int) = 0 then 0 else 3 := by
      unfold ratioErrL; rw [if_pos ⟨hn, hn2⟩, firstErr_z]
      split <;> rfl
    rw [e3]
    ((repeat (first | refine ya (by (with_reducible constructor) <;> first | rfl | decide) ?_ | apply yb | refine yc rfl ?_ | ((first | apply yd | apply ye); simp (disch := first | exact List.all_nil | omega | (simp only [go_sem]; done) | (simp only [ln, List.length_map]; omega) | (repeat' first | assumption | exact Ext.refl _ | refine Ext.app ?_ _)) only [go_sem, dec_t hn, dec_t hn2]; with_reducible rfl))))
    refine cond_f rfl ?_
    by_cases hs : step = 0
    rotate_left 1
    · rw [if_neg (fun h => hs h.1)]
      ((repeat (first | refine ya (by (with_reducible constructor) <;> first | rfl | decide) ?_ | apply yb | refine yc rfl ?_ | ((first | apply yd | apply ye); simp (disch := first | exact List.all_nil | omega | (simp only [go_sem]; done) | (simp only [ln, List.length_map]; omega) | (repeat' first | assumption | exact Ext.refl _ | refine Ext.app ?_ _)) only [go_sem, load_at g0, rulesC, dec_t (show step ≠ 0 from hs)]; with_reducible rfl))))
      refine cond_t rfl ?_
      ((repeat (first | refine ya (by (with_reducible constructor) <;> first | rfl | decide) ?_ | apply yb | refine yc rfl ?_ | ((first | apply yd | apply ye); simp (disch := first | exact List.all_nil | omega | (simp only [go_sem]; done) | (simp only [ln, List.length_map]; omega) | (repeat' first | assumption | exact Ext.refl _ | refine Ext.app ?_ _)) only [go_sem]; with_reducible rfl))))
      exact fin_1 ⟨rfl, xG⟩
    by_cases hz : (l.length : Int) = 0
    rotate_left 1
    · rw [if_neg (fun h => hz h.2)]
      ((repeat (first | refine ya (by (with_reducible constructor) <;> first | rfl | decide) ?_ | apply yb | refine yc rfl ?_ | ((first | apply yd | apply ye); simp (disch := first | exact List.all_nil | omega | (simp only [go_sem]; done) | (simp only [ln, List.length_map]; omega) | (repeat' first | assumption | exact Ext.refl _ | refine Ext.app ?_ _)) only [go_sem, hl1.len, hl1.idx, hl1.load, load_at g0, rulesC, dec_f (show ¬ step ≠ 0 from fun h => h hs), dec_t (show (l.length : Int) ≠ 0 from hz)]; with_reducible rfl))))
      refine cond_t rfl ?_
      ((repeat (first | refine ya (by (with_reducible constructor) <;> first | rfl | decide) ?_ | apply yb | refine yc rfl ?_ | ((first | apply yd | apply ye); simp (disch := first | exact List.all_nil | omega | (simp only [go_sem]; done) | (simp only [ln, List.length_map]; omega) | (repeat' first | assumption | exact Ext.refl _ | refine Ext.app ?_ _)) only [go_sem]; with_reducible rfl))))
      exact fin_1 ⟨rfl, xG⟩
    rw [if_pos ⟨hs, hz⟩]
    ((repeat (first | refine ya (by (with_reducible constructor) <;> first | rfl | decide) ?_ | apply yb | refine yc rfl ?_ | ((first | apply yd | apply ye); simp (disch := first | exact List.all_nil | omega | (simp only [go_sem]; done) | (simp only [ln, List.length_map]; omega) | (repeat' first | assumption | exact Ext.refl _ | refine Ext.app ?_ _)) only [go_sem, hl1.len, hl1.idx, hl1.load, load_at g0, rulesC, dec_f (show ¬ step ≠ 0 from fun h => h hs), dec_f (show ¬ (l.length : Int) ≠ 0 from fun h => h hz)]; with_reducible rfl))))
    refine cond_f rfl ?_
    ((repeat (first | refine ya (by (with_reducible constructor) <;> first | rfl | decide) ?_ | apply yb | refine yc rfl ?_ | ((first | apply yd | apply ye); simp (disch := first | exact List.all_nil | omega | (simp only [go_sem]; done) | (simp only [ln, List.length_map]; omega) | (repeat' first | assumption | exact Ext.refl _ | refine Ext.app ?_ _)) only [go_sem]; with_reducible rfl))))
    exact fin_1 ⟨rfl, xG⟩
  have ev : rulesErrL kind deg num den step l = curveErrL l step num den := by unfold rulesErrL; rw [if_pos hk, if_pos hd, if_neg h0]
  rw [ev]
  ((repeat (first | refine ya (by (with_reducible constructor) <;> first | rfl | decide) ?_ | apply yb | refine yc rfl ?_ | ((first | apply yd | apply ye); simp (disch := first | exact List.all_nil | omega | (simp only [go_sem]; done) | (simp only [ln, List.length_map]; omega) | (repeat' first | assumption | exact Ext.refl _ | refine Ext.app ?_ _)) only [go_sem, load_at g0, rulesC, dec_f h0]; with_reducible rfl))))
  refine cond_f rfl ?_
  ((repeat (first | refine ya (by (with_reducible constructor) <;> first | rfl | decide) ?_ | apply yb | refine yc rfl ?_ | ((first | apply yd | apply ye); simp (disch := first | exact List.all_nil | omega | (simp only [go_sem]; done) | (simp only [ln, List.length_map]; omega) | (repeat' first | assumption | exact Ext.refl _ | refine Ext.app ?_ _)) only [go_sem, load_map g0]; with_reducible rfl))))
  refine aops_call_to (rMapErr_c hl1 hb) ?_
  by_cases hm : mapErrL l = 0
  rotate_left 1
  · have e2 : curveErrL l step num den = mapErrL l := firstErr_e hm _
    rw [e2]
    ((repeat (first | refine ya (by (with_reducible constructor) <;> first | rfl | decide) ?_ | apply yb | refine yc rfl ?_ | ((first | apply yd | apply ye); simp (disch := first | exact List.all_nil | omega | (simp only [go_sem]; done) | (simp only [ln, List.length_map]; omega) | (repeat' first | assumption | exact Ext.refl _ | refine Ext.app ?_ _)) only [go_sem, dec_t (show mapErrL l ≠ 0 from hm)]; with_reducible rfl))))
    refine cond_t rfl ?_
    ((repeat (first | refine ya (by (with_reducible constructor) <;> first | rfl | decide) ?_ | apply yb | refine yc rfl ?_ | ((first | apply yd | apply ye); simp (disch := first | exact List.all_nil | omega | (simp only [go_sem]; done) | (simp only [ln, List.length_map]; omega) | (repeat' first | assumption | exact Ext.refl _ | refine Ext.app ?_ _)) only [go_sem]; with_reducible rfl))))
    exact fin_1 ⟨rfl, xG⟩
  ((repeat (first | refine ya (by (with_reducible constructor) <;> first | rfl | decide) ?_ | apply yb | refine yc rfl ?_ | ((first | apply yd | apply ye); simp (disch := first | exact List.all_nil | omega | (simp only [go_sem]; done) | (simp only [ln, List.length_map]; omega) | (repeat' first | assumption | exact Ext.refl _ | refine Ext.app ?_ _)) only [go_sem, hm]; with_reducible rfl))))
  refine cond_f rfl ?_
  ((repeat (first | refine ya (by (with_reducible constructor) <;> first | rfl | decide) ?_ | apply yb | refine yc rfl ?_ | ((first | apply yd | apply ye); simp (disch := first | exact List.all_nil | omega | (simp only [go_sem]; done) | (simp only [ln, List.length_map]; omega) | (repeat' first | assumption | exact Ext.refl _ | refine Ext.app ?_ _)) only [go_sem, load_at g0, rulesC]; with_reducible rfl))))
  refine aops_call_to (bwithin_c _ _ _) ?_
  by_cases hs : 1 ≤ step ∧ step ≤ 1000000000000
  rotate_left 1
  · have e2 : curveErrL l step num den = 2 := by unfold curveErrL; rw [hm, firstErr_z, if_neg hs]; exact firstErr_e (by decide) _
    rw [e2]
    ((repeat (first | refine ya (by (with_reducible constructor) <;> first | rfl | decide) ?_ | apply yb | refine yc rfl ?_ | ((first | apply yd | apply ye); simp (disch := first | exact List.all_nil | omega | (simp only [go_sem]; done) | (simp only [ln, List.length_map]; omega) | (repeat' first | assumption | exact Ext.refl _ | refine Ext.app ?_ _)) only [go_sem, dec_f hs]; with_reducible rfl))))
    refine cond_t rfl ?_
    ((repeat (first | refine ya (by (with_reducible constructor) <;> first | rfl | decide) ?_ | apply yb | refine yc rfl ?_ | ((first | apply yd | apply ye); simp (disch := first | exact List.all_nil | omega | (simp only [go_sem]; done) | (simp only [ln, List.length_map]; omega) | (repeat' first | assumption | exact Ext.refl _ | refine Ext.app ?_ _)) only [go_sem]; with_reducible rfl))))
    exact fin_1 ⟨rfl, xG⟩
  have e3 : curveErrL l step num den = if num = 0 ∧ den = 0 then 0 else 3 := by
    unfold curveErrL; rw [hm, firstErr_z, if_pos hs, firstErr_z]
    split <;> rfl
  rw [e3]
  ((repeat (first | refine ya (by (with_reducible constructor) <;> first | rfl | decide) ?_ | apply yb | refine yc rfl ?_ | ((first | apply yd | apply ye); simp (disch := first | exact List.all_nil | omega | (simp only [go_sem]; done) | (simp only [ln, List.length_map]; omega) | (repeat' first | assumption | exact Ext.refl _ | refine Ext.app ?_ _)) only [go_sem, dec_t hs]; with_reducible rfl))))
  refine cond_f rfl ?_
  by_cases hn : num = 0
  rotate_left 1
  · rw [if_neg (fun h => hn h.1)]
    ((repeat (first | refine ya (by (with_reducible constructor) <;> first | rfl | decide) ?_ | apply yb | refine yc rfl ?_ | ((first | apply yd | apply ye); simp (disch := first | exact List.all_nil | omega | (simp only [go_sem]; done) | (simp only [ln, List.length_map]; omega) | (repeat' first | assumption | exact Ext.refl _ | refine Ext.app ?_ _)) only [go_sem, load_at g0, rulesC, dec_t (show num ≠ 0 from hn)]; with_reducible rfl))))
    refine cond_t rfl ?_
    ((repeat (first | refine ya (by (with_reducible constructor) <;> first | rfl | decide) ?_ | apply yb | refine yc rfl ?_ | ((first | apply yd | apply ye); simp (disch := first | exact List.all_nil | omega | (simp only [go_sem]; done) | (simp only [ln, List.length_map]; omega) | (repeat' first | assumption | exact Ext.refl _ | refine Ext.app ?_ _)) only [go_sem]; with_reducible rfl))))
    exact fin_1 ⟨rfl, xG⟩
  by_cases hn2 : den = 0
  rotate_left 1
  · rw [if_neg (fun h => hn2 h.2)]
    ((repeat (first | refine ya (by (with_reducible constructor) <;> first | rfl | decide) ?_ | apply yb | refine yc rfl ?_ | ((first | apply yd | apply ye); simp (disch := first | exact List.all_nil | omega | (simp only [go_sem]; done) | (simp only [ln, List.length_map]; omega) | (repeat' first | assumption | exact Ext.refl _ | refine Ext.app ?_ _)) only [go_sem, load_at g0, rulesC, dec_f (show ¬ num ≠ 0 from fun h => h hn), dec_t (show den ≠ 0 from hn2)]; with_reducible rfl))))
    refine cond_t rfl ?_
    ((repeat (first | refine ya (by (with_reducible constructor) <;> first | rfl | decide) ?_ | apply yb | refine yc rfl ?_ | ((first | apply yd | apply ye); simp (disch := first | exact List.all_nil | omega | (simp only [go_sem]; done) | (simp only [ln, List.length_map]; omega) | (repeat' first | assumption | exact Ext.refl _ | refine Ext.app ?_ _)) only [go_sem]; with_reducible rfl))))
    exact fin_1 ⟨rfl, xG⟩
  rw [if_pos ⟨hn, hn2⟩]
  ((repeat (first | refine ya (by (with_reducible constructor) <;> first | rfl | decide) ?_ | apply yb | refine yc rfl ?_ | ((first | apply yd | apply ye); simp (disch := first | exact List.all_nil | omega | (simp only [go_sem]; done) | (simp only [ln, List.length_map]; omega) | (repeat' first | assumption | exact Ext.refl _ | refine Ext.app ?_ _)) only [go_sem, load_at g0, rulesC, dec_f (show ¬ num ≠ 0 from fun h => h hn), dec_f (show ¬ den ≠ 0 from fun h => h hn2)]; with_reducible rfl))))
  refine cond_f rfl ?_
  ((repeat (first | refine ya (by (with_reducible constructor) <;> first | rfl | decide) ?_ | apply yb | refine yc rfl ?_ | ((first | apply yd | apply ye); simp (disch := first | exact List.all_nil | omega | (simp only [go_sem]; done) | (simp only [ln, List.length_map]; omega) | (repeat' first | assumption | exact Ext.refl _ | refine Ext.app ?_ _)) only [go_sem]; with_reducible rfl))))
  exact fin_1 ⟨rfl, xG⟩
end
end Go.Lq

namespace Go.Lq
open Go
open Go.Proofs

theorem store_in {H : AHeap} {k e i : Nat} {vs : List Value} {v w : Value} (h : H[k]? = some (.cells true e vs)) (hi : i < vs.length) (ha : isAtom w = true) (hc : v.cells = ⟨[w]⟩) :
    storeR 1 (.pointer (some ⟨k, i, none⟩)) v H = some (undef, H.set k (.cells true e (vs.set i w))) := by
  have e2 : ([w] : List Value).all isAtom = true := by simp [ha]
  simp only [storeR, hc, List.size_toArray, storeAt, h, e2, and_true, List.length_cons, List.length_nil]
  rw [setCells_one _ _ _ hi]
  simp [show i + 1 ≤ vs.length by omega]
theorem store_all {H : AHeap} {id e n : Nat} {us vs : List Value} (h : H[id]? = some (.cells true e vs)) (hl : us.length = vs.length) (ha : us.all isAtom = true) (hn : n = us.length) :
    storeR n (.pointer (some ⟨id, 0, none⟩)) (.agg ⟨us⟩) H = some (undef, H.set id (.cells true e us)) := by
  subst hn
  have e1 : (Value.agg ⟨us⟩).cells = ⟨us⟩ := rfl
  have e2 : setCells vs 0 us = us := by
    unfold setCells
    simp [hl]
  simp only [storeR, e1, List.size_toArray, storeAt, h, ha, e2]
  simp [hl]
theorem wraps_rules {kind deg num den step : Int} : Wraps fun s => rulesV kind deg num den step s := fun s n a b h => .agg rfl fun i u u' h1 h2 => by
  match i with
  | 0 => simp at h1 h2; subst h1; subst h2; exact .int _ _
  | 1 => simp at h1 h2; subst h1; subst h2; exact .int _ _
  | 2 => simp at h1 h2; subst h1; subst h2; exact .int _ _
  | 3 => simp at h1 h2; subst h1; subst h2; exact .int _ _
  | 4 => simp at h1 h2; subst h1; subst h2; exact .int _ _
  | 5 => simp at h1 h2; subst h1; subst h2; exact h
  | i + 6 => simp at h1

section
variable {H : AHeap} {kind deg num den step : Int} {l : List (Int × Int)} {v : Value}
theorem few_c (hl : Pairs H l v) : ACall Go.Proofs.Tryd.prog 21 [.agg ⟨[v]⟩] H fun w H' => w = .bool (decide (l.length ≤ 22)) ∧ H' = H := by
  refine ACall.drop (.bool _) ?_
  (refine a21 ?_; simp only [n21, List.replicate, List.length_cons, List.length_nil, List.cons_append, List.nil_append]; first | refine q1 ?_ | refine q2 ?_ | refine q6 ?_ | refine q7 ?_ | refine qh rfl ?_ | skip)
  have g0 : (H ++ [AObj.cells true 0 [v]])[H.length]? = some (.cells true 0 [v]) := at_new
  have xG : Ext H (H ++ [AObj.cells true 0 [v]]) := (Ext.refl H).app _
  (repeat (first | refine ya (by (with_reducible constructor) <;> first | rfl | decide) ?_ | (apply yd; simp (disch := first | exact List.all_nil | omega | (simp only [go_sem]; done) | (simp only [ln, List.length_map]; omega) | (repeat' first | assumption | exact Ext.refl _ | refine Ext.app ?_ _)) only [go_sem, hl.box1]; with_reducible rfl)))
  generalize (H ++ [AObj.cells true 0 [v]] : AHeap) = G at g0 xG
  have hl1 := hl.ext xG
  ((repeat (first | refine ya (by (with_reducible constructor) <;> first | rfl | decide) ?_ | apply yb | refine yc rfl ?_ | ((first | apply yd | apply ye); simp (disch := first | exact List.all_nil | omega | (simp only [go_sem]; done) | (simp only [ln, List.length_map]; omega) | (repeat' first | assumption | exact Ext.refl _ | refine Ext.app ?_ _)) only [go_sem, hl1.len, hl1.idx, hl1.load, load_at g0]; with_reducible rfl))))
  have e1 : decide ((l.length : Int) ≤ 22) = decide (l.length ≤ 22) := by simp; omega
  exact fin_1 ⟨by rw [← e1]; rfl, xG⟩
theorem copyMap_c (hl : Pairs H l v) (hb : l.length ≤ 1000000) : ACall Go.Proofs.Tryd.prog 52 [.agg ⟨[v]⟩] H fun w H' =>
    w = .agg ⟨[.slice (some ⟨H.length, 0, none⟩) l.length l.length]⟩ ∧ H' = H ++ [.cells true 2 (flatP l)] := by
  refine ACall.tidyE (f := fun s => .agg ⟨[s]⟩) (n := l.length) (sz := 2) wraps_agg1 (closed_flatP l) ?_
  (refine a52 ?_; simp only [n52, List.replicate, List.length_cons, List.length_nil, List.cons_append, List.nil_append]; first | refine q1 ?_ | refine q2 ?_ | refine q6 ?_ | refine q7 ?_ | refine qh rfl ?_ | skip)
  (repeat (first | refine ya (by (with_reducible constructor) <;> first | rfl | decide) ?_ | (apply yd; simp (disch := first | exact List.all_nil | omega | (simp only [go_sem]; done) | (simp only [ln, List.length_map]; omega) | (repeat' first | assumption | exact Ext.refl _ | refine Ext.app ?_ _)) only [go_sem, hl.box1]; with_reducible rfl)))
  (simp only [List.length_append, List.length_cons, List.length_nil, Nat.zero_add, Nat.add_assoc, Nat.reduceAdd])
  obtain ⟨G, hG⟩ : ∃ G, G = H ++ [AObj.cells true 0 [v]] ++ [AObj.cells true 0 [.slice none 0 0]] := ⟨_, rfl⟩
  have g0 : G[H.length]? = some (.cells true 0 [v]) := by rw [hG]; exact at_app at_new
  have g1 : G[H.length + 1]? = some (.cells true 0 [.slice none 0 0]) := by rw [hG]; simp
  have xG : Ext H G := by rw [hG]; exact ((Ext.refl H).app _).app _
  have lG : G.length = H.length + 2 := by rw [hG]; simp
  rw [← hG]
  clear hG
  obtain ⟨s, H2, ha, hx2, id, rfl, hid, hc2⟩ := append_copy (bytes := 16) (hl.ext xG) (isAtom_flatP l) (roomOk_of (by omega) (by omega))
  have h1 := hx2.cell g1
  have hms : mkSliceL 2 0 (some []) G = some (.slice (some ⟨G.length, 0, none⟩) 0 0, G ++ [.cells true 2 []]) := rfl
  have k0 := at_app (N := [AObj.cells true 2 []]) g0
  have hf : fillA [.slice none 0 0] [(0, 1, .slice (some ⟨id, 0, none⟩) l.length l.length)] = some [.slice (some ⟨id, 0, none⟩) l.length l.length] := rfl
  have hst := store_all (n := 1) (us := [.slice (some ⟨id, 0, none⟩) l.length l.length]) h1 rfl rfl rfl
  ((repeat (first | refine ya (by (with_reducible constructor) <;> first | rfl | decide) ?_ | apply yb | refine yc rfl ?_ | ((first | apply yd | apply ye); simp (disch := first | exact List.all_nil | omega | (simp only [go_sem]; done) | (simp only [ln, List.length_map]; omega) | (repeat' first | assumption | exact Ext.refl _ | refine Ext.app ?_ _)) only [go_sem, hms, load_at k0, ha, hf, hst]; with_reducible rfl))))
  refine fin_l1 (u := .agg ⟨[.slice (some ⟨id, 0, none⟩) l.length l.length]⟩) (loadN_at (k := 0) (get_set_self h1) (by simp)) ?_
  refine ⟨_, id, rfl, (xG.trans hx2).set (by omega) _, rfl, by omega, ?_⟩
  rw [List.getElem?_set_ne (by omega)]; exact hc2
theorem copyRules_c (hl : Pairs H l v) (hb : l.length ≤ 1000000) : ACall Go.Proofs.Tryd.prog 24 [rulesV kind deg num den step v] H fun w H' =>
    w = rulesV kind deg num den step (.slice (some ⟨H.length, 0, none⟩) l.length l.length) ∧ H' = H ++ [.cells true 2 (flatP l)] := by
  refine ACall.tidyE (f := fun s => rulesV kind deg num den step s) (n := l.length) (sz := 2) wraps_rules (closed_flatP l) ?_
  (refine a24 ?_; simp only [n24, List.replicate, List.length_cons, List.length_nil, List.cons_append, List.nil_append]; first | refine q1 ?_ | refine q2 ?_ | refine q6 ?_ | refine q7 ?_ | refine qh rfl ?_ | skip)
  (repeat (first | refine ya (by (with_reducible constructor) <;> first | rfl | decide) ?_ | (apply yd; simp (disch := first | exact List.all_nil | omega | (simp only [go_sem]; done) | (simp only [ln, List.length_map]; omega) | (repeat' first | assumption | exact Ext.refl _ | refine Ext.app ?_ _)) only [go_sem, box_rules hl.atom]; with_reducible rfl)))
  (simp only [List.length_append, List.length_cons, List.length_nil, Nat.zero_add, Nat.add_assoc, Nat.reduceAdd])
  obtain ⟨G, hG⟩ : ∃ G, G = H ++ [AObj.cells true 0 (rulesC kind deg num den step v)] ++ [AObj.cells true 0 [.int .i64 0, .int .i64 0, .int .i64 0, .int .i64 0, .int .i64 0, .slice none 0 0]] := ⟨_, rfl⟩
  have g0 : G[H.length]? = some (.cells true 0 (rulesC kind deg num den step v)) := by rw [hG]; exact at_app at_new
  have g1 : G[H.length + 1]? = some (.cells true 0 [.int .i64 0, .int .i64 0, .int .i64 0, .int .i64 0, .int .i64 0, .slice none 0 0]) := by rw [hG]; simp
  have xG : Ext H G := by rw [hG]; exact ((Ext.refl H).app _).app _
  have lG : G.length = H.length + 2 := by rw [hG]; simp
  rw [← hG]
  clear hG
  ((repeat (first | refine ya (by (with_reducible constructor) <;> first | rfl | decide) ?_ | apply yb | refine yc rfl ?_ | ((first | apply yd | apply ye); simp (disch := first | exact List.all_nil | omega | (simp only [go_sem]; done) | (simp only [ln, List.length_map]; omega) | (repeat' first | assumption | exact Ext.refl _ | refine Ext.app ?_ _)) only [go_sem, load_map g0]; with_reducible rfl))))
  refine aops_call_to (copyMap_c (hl.ext xG) hb) ?_
  have k0 := at_app (N := [AObj.cells true 2 (flatP l)]) g0
  have k1 := at_app (N := [AObj.cells true 2 (flatP l)]) g1
  have k2 : (G ++ [AObj.cells true 2 (flatP l)])[G.length]? = some (.cells true 2 (flatP l)) := at_new
  have x2 := xG.app [AObj.cells true 2 (flatP l)]
  generalize (G ++ [AObj.cells true 2 (flatP l)] : AHeap) = G2 at k0 k1 k2 x2
  obtain ⟨s, hs⟩ : ∃ s, Value.slice (some ⟨G.length, 0, none⟩) l.length l.length = s := ⟨_, rfl⟩
  have hsa : isAtom s = true := by rw [← hs]; rfl
  rw [hs]
  have hst : storeR 1 (.pointer (some ⟨H.length, 5, none⟩)) (.agg ⟨[s]⟩) G2 = some (undef, G2.set H.length (.cells true 0 (rulesC kind deg num den step s))) := store_in k0 (by simp [rulesC]) hsa rfl
  have j0 : (G2.set H.length (.cells true 0 (rulesC kind deg num den step s)))[H.length]? = some (.cells true 0 (rulesC kind deg num den step s)) := get_set_self k0
  have j1 : (G2.set H.length (.cells true 0 (rulesC kind deg num den step s)))[H.length + 1]? = some (.cells true 0 [.int .i64 0, .int .i64 0, .int .i64 0, .int .i64 0, .int .i64 0, .slice none 0 0]) := by rw [List.getElem?_set_ne (by omega)]; exact k1
  have j2 : (G2.set H.length (.cells true 0 (rulesC kind deg num den step s)))[G.length]? = some (.cells true 2 (flatP l)) := by rw [List.getElem?_set_ne (by omega)]; exact k2
  have x3 := x2.set (Nat.le_refl _) (.cells true 0 (rulesC kind deg num den step s))
  have l6 : loadNR 6 (.pointer (some ⟨H.length, 0, none⟩)) (G2.set H.length (.cells true 0 (rulesC kind deg num den step s))) = some (rulesV kind deg num den step s, G2.set H.length (.cells true 0 (rulesC kind deg num den step s))) := loadN_at j0 (by simp [rulesC])
  have hs6 : storeR 6 (.pointer (some ⟨H.length + 1, 0, none⟩)) (rulesV kind deg num den step s) (G2.set H.length (.cells true 0 (rulesC kind deg num den step s))) = some (undef, (G2.set H.length (.cells true 0 (rulesC kind deg num den step s))).set (H.length + 1) (.cells true 0 (rulesC kind deg num den step s))) := store_all j1 rfl (by simp [hsa, isAtom_int]) rfl
  ((repeat (first | refine ya (by (with_reducible constructor) <;> first | rfl | decide) ?_ | apply yb | refine yc rfl ?_ | ((first | apply yd | apply ye); simp (disch := first | exact List.all_nil | omega | (simp only [go_sem]; done) | (simp only [ln, List.length_map]; omega) | (repeat' first | assumption | exact Ext.refl _ | refine Ext.app ?_ _)) only [go_sem, hst, l6, hs6]; with_reducible rfl))))
  refine fin_l1 (u := rulesV kind deg num den step s) (loadN_at (k := 0) (get_set_self j1) (by simp [rulesC])) ?_
  refine ⟨s, G.length, rfl, x3.set (by omega) _, hs.symm, by omega, ?_⟩
  rw [List.getElem?_set_ne (by omega)]; exact j2
end
end Go.Lq
