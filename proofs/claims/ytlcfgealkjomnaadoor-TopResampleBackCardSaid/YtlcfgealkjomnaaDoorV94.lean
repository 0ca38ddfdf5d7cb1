/- TopResampleBack is proved: for every input that can be read the law returns true, and each argument reads afterwards as it read before; the listed package variables hold what the program's text lays (the card ties them). -/
import Derived.Test.YtlcfgealkjomnaaDoorV93
set_option linter.unusedSimpArgs false
set_option linter.unnecessarySimpa false
set_option linter.unusedVariables false
set_option maxRecDepth 100000
namespace Go.Lq
open Go
open Go.Proofs

def posRes (l : List (Int × Int)) (t : Int) : Option Nat → (Int × Int) × Int
  | none => ((0, 0), 2)
  | some i => ((posLo (pieceOf l i) t, posHi (pieceOf l i) t), 0)
def posAtL (l : List (Int × Int)) (t : Int) : (Int × Int) × Int := if mapErrL l = 0 then posRes l t (findP (inTime t) l 0 (l.length - 1)) else ((0, 0), mapErrL l)
theorem conv_iu64 {n : Int} {H : AHeap} (h : 0 ≤ n) (h2 : n < 18446744073709551616) : convR .u64 (.int .i64 n) H = some (.int .u64 n, H) := by
  have : IntKind.u64.wrap n = n := by
    show wu n = n
    exact wu_id h h2
  simp [convR, this]

theorem conv_ui64 {n : Int} {H : AHeap} (h : 0 ≤ n) (h2 : n ≤ 1000000000000000) : convR .i64 (.int .u64 n) H = some (.int .i64 n, H) := by
  have : IntKind.i64.wrap n = n := by
    show w64 n = n
    exact w64_id (by omega) (by omega)
  simp [convR, this]
theorem fill1v {x v : Value} (h : isAtom v = true) : fillA [x] [(0, 1, .agg ⟨[v]⟩)] = some [v] := by
  have e1 : (Value.agg ⟨[v]⟩).cells = ⟨[v]⟩ := rfl
  simp [fillA, e1, h, setCells]
section
variable {H : AHeap}
theorem positionAt1_c {t : Int} {q : (Int × Int) × (Int × Int)} {id : Nat} (h : H[id]? = some (.cells true 0 [.int .i64 t])) : ACall Go.Proofs.Tryd.prog 150 [pieceV q, .pointer (some ⟨id, 0, none⟩)] H fun v H' => v = .bool (inTime t q) ∧ H' = H := by
  refine ACall.drop (.bool _) ?_
  (refine a150 ?_; simp only [n150, List.replicate, List.length_cons, List.length_nil, List.cons_append, List.nil_append]; first | refine q1 ?_ | refine q2 ?_ | refine q6 ?_ | refine q7 ?_ | refine qh rfl ?_ | skip)
  have g0 : (H ++ [AObj.cells true 0 (pieceC q)])[H.length]? = some (.cells true 0 (pieceC q)) := at_new
  have xG : Ext H (H ++ [AObj.cells true 0 (pieceC q)]) := (Ext.refl H).app _
  have h1 := xG.cell h
  (repeat (first | refine ya (by (with_reducible constructor) <;> first | rfl | decide) ?_ | (apply yd; simp (disch := first | exact List.all_nil | omega | (simp only [go_sem]; done) | (simp only [ln, List.length_map]; omega) | (repeat' first | assumption | exact Ext.refl _ | refine Ext.app ?_ _)) only [go_sem, box_piece]; with_reducible rfl)))
  generalize (H ++ [AObj.cells true 0 (pieceC q)] : AHeap) = G at g0 xG h1
  ((repeat (first | refine ya (by (with_reducible constructor) <;> first | rfl | decide) ?_ | apply yb | refine yc rfl ?_ | ((first | apply yd | apply ye); simp (disch := first | exact List.all_nil | omega | (simp only [go_sem]; done) | (simp only [ln, List.length_map]; omega) | (repeat' first | assumption | exact Ext.refl _ | refine Ext.app ?_ _)) only [go_sem, load_at g0, load_at h1, pieceC]; with_reducible rfl))))
  refine aops_call_to (swithin_c _ _ _) ?_
  ((repeat (first | refine ya (by (with_reducible constructor) <;> first | rfl | decide) ?_ | apply yb | refine yc rfl ?_ | ((first | apply yd | apply ye); simp (disch := first | exact List.all_nil | omega | (simp only [go_sem]; done) | (simp only [ln, List.length_map]; omega) | (repeat' first | assumption | exact Ext.refl _ | refine Ext.app ?_ _)) only [go_sem]; with_reducible rfl))))
  exact fin_1 ⟨rfl, xG⟩
set_option maxHeartbeats 4000000 in
theorem positionAt_c {l : List (Int × Int)} {v : Value} {t : Int} (hl : Pairs H l v) (hb : l.length ≤ 1000000000) : ACall Go.Proofs.Tryd.prog 148 [.agg ⟨[v]⟩, .int .i64 t] H fun w H' =>
    w = .tuple #[fracV (posAtL l t).1, .int .i64 (posAtL l t).2] ∧ H' = H := by
  refine ACall.drop (closed_frac1 _ _) ?_
  (refine a148 ?_; simp only [n148, List.replicate, List.length_cons, List.length_nil, List.cons_append, List.nil_append]; first | refine Go.Lq.q1 ?_ | refine Go.Lq.q2 ?_ | refine Go.Lq.q6 ?_ | refine Go.Lq.q7 ?_ | refine Go.Lq.qh rfl ?_ | skip)
  obtain ⟨G, hG⟩ : ∃ G, G = H ++ [AObj.cells true 0 [v]] ++ [AObj.cells true 0 [.int .i64 t]] ++ [AObj.cells true 0 [.int .i64 0, .int .i64 0]] := ⟨_, rfl⟩
  have g0 : G[H.length]? = some (.cells true 0 [v]) := by rw [hG]; simp
  have g1 : G[H.length + 1]? = some (.cells true 0 [.int .i64 t]) := by rw [hG]; simp
  have g2 : G[H.length + 2]? = some (.cells true 0 [.int .i64 0, .int .i64 0]) := by rw [hG]; simp
  have xG : Ext H G := by rw [hG]; exact (((Ext.refl H).app _).app _).app _
  have lG : G.length = H.length + 3 := by rw [hG]; simp
  have hf1 : fillA [.slice none 0 0] [(0, 1, .agg ⟨[v]⟩)] = some [v] := fill1v hl.atom
  have hms : ∀ J : AHeap, mkSliceL 1 1 (some [v]) J = some (.slice (some ⟨J.length, 0, none⟩) 1 1, J ++ [.cells true 1 [v]]) := fun J => mkSliceL_some (by simp [hl.atom])
  have hbi : ∀ J : AHeap, boxR (.int .i64 t) J = some (.pointer (some ⟨J.length, 0, none⟩), J ++ [.cells true 0 [.int .i64 t]]) := fun J => rfl
  (repeat (first | refine ya (by (with_reducible constructor) <;> first | rfl | decide) ?_ | (apply yd; simp (disch := first | exact List.all_nil | omega | (simp only [go_sem]; done) | (simp only [ln, List.length_map]; omega) | (repeat' first | assumption | exact Ext.refl _ | refine Ext.app ?_ _)) only [go_sem, hl.box1, hbi]; with_reducible rfl)))
  (simp only [List.length_append, List.length_cons, List.length_nil, Nat.zero_add, Nat.add_assoc, Nat.reduceAdd])
  rw [← hG]
  clear hG
  ((repeat (first | refine ya (by (with_reducible constructor) <;> first | rfl | decide) ?_ | apply yb | refine yc rfl ?_ | ((first | apply yd | apply ye); simp (disch := first | exact List.all_nil | omega | (simp only [go_sem]; done) | (simp only [ln, List.length_map]; omega) | (repeat' first | assumption | exact Ext.refl _ | refine Ext.app ?_ _)) only [go_sem, n1_at g0, hf1, hms]; with_reducible rfl))))
  have hS : Sl (G ++ [AObj.cells true 1 [v]]) 1 1 [v] (.slice (some ⟨G.length, 0, none⟩) 1 1) := Sl.last rfl 1
  have x2 : Ext G (G ++ [AObj.cells true 1 [v]]) := (Ext.refl G).app _
  generalize (G ++ [AObj.cells true 1 [v]] : AHeap) = G2 at hS x2
  have xH2 := xG.trans x2
  have k0 := x2.cell g0
  have k1 := x2.cell g1
  have k2 := x2.cell g2
  refine aops_call_to (spMapErr_c hS (hl.ext xH2) hb) ?_
  ((repeat (first | refine ya (by (with_reducible constructor) <;> first | rfl | decide) ?_ | apply yb | refine yc rfl ?_ | ((first | apply yd | apply ye); simp (disch := first | exact List.all_nil | omega | (simp only [go_sem]; done) | (simp only [ln, List.length_map]; omega) | (repeat' first | assumption | exact Ext.refl _ | refine Ext.app ?_ _)) only [go_sem]; with_reducible rfl))))
  refine cond_p rfl (fun hne => ?_) (fun heq => ?_)
  · have ev : posAtL l t = ((0, 0), mapErrL l) := by unfold posAtL; rw [if_neg hne]
    rw [ev]
    ((repeat (first | refine ya (by (with_reducible constructor) <;> first | rfl | decide) ?_ | apply yb | refine yc rfl ?_ | ((first | apply yd | apply ye); simp (disch := first | exact List.all_nil | omega | (simp only [go_sem]; done) | (simp only [ln, List.length_map]; omega) | (repeat' first | assumption | exact Ext.refl _ | refine Ext.app ?_ _)) only [go_sem, fill_none, store_b2 k2]; with_reducible rfl))))
    refine fin_l2f rfl (get_set_self k2) ⟨rfl, xH2.set (by omega) _⟩
  have hz := Decidable.not_not.1 heq
  have hok := mapErr_ok hz
  have h20 := hok.hi
  have h02 := hok.lo
  have ev : posAtL l t = posRes l t (findP (inTime t) l 0 (l.length - 1)) := by unfold posAtL; rw [if_pos hz]
  ((repeat (first | refine ya (by (with_reducible constructor) <;> first | rfl | decide) ?_ | apply yb | refine yc rfl ?_ | ((first | apply yd | apply ye); simp (disch := first | exact List.all_nil | omega | (simp only [go_sem]; done) | (simp only [ln, List.length_map]; omega) | (repeat' first | assumption | exact Ext.refl _ | refine Ext.app ?_ _)) only [go_sem, n1_at k0]; with_reducible rfl))))
  refine aops_call_to (find_c (g := 150) (ad := ⟨H.length + 1, 0, none⟩) (p := inTime t) (hl.ext xH2) (by omega) (by omega) (fun J hJ i hi => positionAt1_c (hJ.cell k1))) ?_
  obtain ⟨o, ho⟩ : ∃ o, findP (inTime t) l 0 (l.length - 1) = o := ⟨_, rfl⟩
  rw [ho] at ev ⊢
  have hst : storeR 4 (.pointer (some ⟨G2.length, 0, none⟩)) (pieceV (findR o l).1) (G2 ++ [.cells true 0 [.int .i64 0, .int .i64 0, .int .i64 0, .int .i64 0]]) = some (undef, G2 ++ [.cells true 0 (pieceC (findR o l).1)]) := store_new4 rfl
  ((repeat (first | refine ya (by (with_reducible constructor) <;> first | rfl | decide) ?_ | apply yb | refine yc rfl ?_ | ((first | apply yd | apply ye); simp (disch := first | exact List.all_nil | omega | (simp only [go_sem]; done) | (simp only [ln, List.length_map]; omega) | (repeat' first | assumption | exact Ext.refl _ | refine Ext.app ?_ _)) only [go_sem, hst]; with_reducible rfl))))
  have b7 : (G2 ++ [AObj.cells true 0 (pieceC (findR o l).1)])[G2.length]? = some (.cells true 0 (pieceC (findR o l).1)) := at_new
  have x3 : Ext G2 (G2 ++ [AObj.cells true 0 (pieceC (findR o l).1)]) := (Ext.refl G2).app _
  generalize (G2 ++ [AObj.cells true 0 (pieceC (findR o l).1)] : AHeap) = G3 at b7 x3
  have xH3 := xH2.trans x3
  have j1 := x3.cell k1
  have j2 := x3.cell k2
  cases o with
  | none =>
    rw [ev]
    ((repeat (first | refine ya (by (with_reducible constructor) <;> first | rfl | decide) ?_ | apply yb | refine yc rfl ?_ | ((first | apply yd | apply ye); simp (disch := first | exact List.all_nil | omega | (simp only [go_sem]; done) | (simp only [ln, List.length_map]; omega) | (repeat' first | assumption | exact Ext.refl _ | refine Ext.app ?_ _)) only [go_sem, findR]; with_reducible rfl))))
    refine cond_t rfl ?_
    ((repeat (first | refine ya (by (with_reducible constructor) <;> first | rfl | decide) ?_ | apply yb | refine yc rfl ?_ | ((first | apply yd | apply ye); simp (disch := first | exact List.all_nil | omega | (simp only [go_sem]; done) | (simp only [ln, List.length_map]; omega) | (repeat' first | assumption | exact Ext.refl _ | refine Ext.app ?_ _)) only [go_sem, fill_none, store_b2 j2]; with_reducible rfl))))
    refine fin_l2f rfl (get_set_self j2) ⟨rfl, xH3.set (by omega) _⟩
  | some i =>
    obtain ⟨_, f2, f3, _⟩ := findP_some ho
    have hin : (pieceOf l i).1.2 ≤ t ∧ t ≤ (pieceOf l i).2.2 := of_decide_eq_true f3
    have b7' : G3[G2.length]? = some (.cells true 0 (pieceC (pieceOf l i))) := b7
    have p1 : 0 ≤ (pieceOf l i).1.1 ∧ (pieceOf l i).1.1 ≤ 1000000 := hok.pos i (by omega)
    have p2 : 0 ≤ (pieceOf l i).2.1 ∧ (pieceOf l i).2.1 ≤ 1000000 := hok.pos (i + 1) (by omega)
    have p3 : 0 ≤ (pieceOf l i).1.2 ∧ (pieceOf l i).1.2 ≤ 1000000000000 := hok.time i (by omega)
    have p4 : 0 ≤ (pieceOf l i).2.2 ∧ (pieceOf l i).2.2 ≤ 1000000000000 := hok.time (i + 1) (by omega)
    have p5 : (pieceOf l i).1.1 < (pieceOf l i).2.1 := hok.posUp i (by omega)
    have p6 : (pieceOf l i).1.2 < (pieceOf l i).2.2 := hok.timeUp i (by omega)
    have ev2 : posRes l t (some i) = ((posLo (pieceOf l i) t, posHi (pieceOf l i) t), 0) := rfl
    rw [ev, ev2]
    have ef : (findR (some i) l) = (pieceOf l i, true) := rfl
    rw [ef]
    generalize pieceOf l i = p at *
    ((repeat (first | refine ya (by (with_reducible constructor) <;> first | rfl | decide) ?_ | apply yb | refine yc rfl ?_ | ((first | apply yd | apply ye); simp (disch := first | exact List.all_nil | omega | (simp only [go_sem]; done) | (simp only [ln, List.length_map]; omega) | (repeat' first | assumption | exact Ext.refl _ | refine Ext.app ?_ _)) only [go_sem]; with_reducible rfl))))
    refine cond_f rfl ?_
    obtain ⟨x, hx⟩ : ∃ x, t - p.1.2 = x := ⟨_, rfl⟩
    obtain ⟨y, hy⟩ : ∃ y, 64 * (p.2.1 - p.1.1) = y := ⟨_, rfl⟩
    obtain ⟨d, hd⟩ : ∃ d, p.2.2 - p.1.2 = d := ⟨_, rfl⟩
    have m1 : 0 ≤ x * y := Int.mul_nonneg (by omega) (by omega)
    have m2 : x * y ≤ d * 64000000 := Int.le_trans (Int.mul_le_mul_of_nonneg_right (show x ≤ d by omega) (by omega)) (Int.mul_le_mul_of_nonneg_left (by omega) (by omega))
    have hN : posN p t = x * y := by unfold posN; rw [hx, hy]
    have q1 : x * y / d ≤ 64000000 := Int.ediv_le_of_le_mul (by omega) (by rw [Int.mul_comm 64000000 d]; exact m2)
    have q0 : 0 ≤ x * y / d := Int.ediv_nonneg m1 (by omega)
    ((repeat (first | refine ya (by (with_reducible constructor) <;> first | rfl | decide) ?_ | apply yb | refine yc rfl ?_ | ((first | apply yd | apply ye); simp (disch := first | exact List.all_nil | omega | (simp only [go_sem]; done) | (simp only [ln, List.length_map]; omega) | (repeat' first | assumption | exact Ext.refl _ | refine Ext.app ?_ _)) only [go_sem, load_at j1, load_at b7', load_piece b7', pieceC, hx, conv_iu64 (n := x) (by omega) (by omega)]; with_reducible rfl))))
    refine adraw_call (N := []) (firstD (positions_c (by omega))) ?_
    rw [List.append_nil]
    ((repeat (first | refine ya (by (with_reducible constructor) <;> first | rfl | decide) ?_ | apply yb | refine yc rfl ?_ | ((first | apply yd | apply ye); simp (disch := first | exact List.all_nil | omega | (simp only [go_sem]; done) | (simp only [ln, List.length_map]; omega) | (repeat' first | assumption | exact Ext.refl _ | refine Ext.app ?_ _)) only [go_sem, hy, conv_iu64 (n := y) (by omega) (by omega)]; with_reducible rfl))))
    refine adraw_call (N := []) (firstD (mul64_c ⟨by omega, by omega⟩ ⟨by omega, by omega⟩)) ?_
    rw [List.append_nil]
    ((repeat (first | refine ya (by (with_reducible constructor) <;> first | rfl | decide) ?_ | apply yb | refine yc rfl ?_ | ((first | apply yd | apply ye); simp (disch := first | exact List.all_nil | omega | (simp only [go_sem]; done) | (simp only [ln, List.length_map]; omega) | (repeat' first | assumption | exact Ext.refl _ | refine Ext.app ?_ _)) only [go_sem, load_piece b7']; with_reducible rfl))))
    refine aops_call_to (times_c (by omega)) ?_
    ((repeat (first | refine ya (by (with_reducible constructor) <;> first | rfl | decide) ?_ | apply yb | refine yc rfl ?_ | ((first | apply yd | apply ye); simp (disch := first | exact List.all_nil | omega | (simp only [go_sem]; done) | (simp only [ln, List.length_map]; omega) | (repeat' first | assumption | exact Ext.refl _ | refine Ext.app ?_ _)) only [go_sem, hd, conv_iu64 (n := d) (by omega) (by omega)]; with_reducible rfl))))
    obtain ⟨z, hz2⟩ : ∃ z, x * y = z := ⟨_, rfl⟩
    rw [hz2] at m1 m2 q1 q0 hN ⊢
    have hd1 : z / 18446744073709551616 < d := by omega
    refine aops_call_to (div64_c (hi := z / 18446744073709551616) (lo := z % 18446744073709551616) (y := d) ⟨by omega, hd1⟩ ⟨by omega, by omega⟩ (by omega)) ?_
    have ez : z / 18446744073709551616 * 18446744073709551616 + z % 18446744073709551616 = z := by omega
    rw [ez]
    obtain ⟨q, hq⟩ : ∃ q, z / d = q := ⟨_, rfl⟩
    rw [hq] at q1 q0 ⊢
    have elo : posLo p t = 64 * p.1.1 + q := by unfold posLo; rw [hN, hd, hq]
    ((repeat (first | refine ya (by (with_reducible constructor) <;> first | rfl | decide) ?_ | apply yb | refine yc rfl ?_ | ((first | apply yd | apply ye); simp (disch := first | exact List.all_nil | omega | (simp only [go_sem]; done) | (simp only [ln, List.length_map]; omega) | (repeat' first | assumption | exact Ext.refl _ | refine Ext.app ?_ _)) only [go_sem, load_at b7', pieceC, conv_ui64 (n := q) (by omega) (by omega)]; with_reducible rfl))))
    refine cond_p rfl (fun hr => ?_) (fun hr => ?_)
    · have ehi : posHi p t = 64 * p.1.1 + q := by unfold posHi; rw [hN, hd, if_pos hr, elo]
      rw [elo, ehi]
      ((repeat (first | refine ya (by (with_reducible constructor) <;> first | rfl | decide) ?_ | apply yb | refine yc rfl ?_ | ((first | apply yd | apply ye); simp (disch := first | exact List.all_nil | omega | (simp only [go_sem]; done) | (simp only [ln, List.length_map]; omega) | (repeat' first | assumption | exact Ext.refl _ | refine Ext.app ?_ _)) only [go_sem, fill2i, store_b2 j2]; with_reducible rfl))))
      refine fin_l2f rfl (get_set_self j2) ⟨rfl, xH3.set (by omega) _⟩
    · have ehi : posHi p t = 64 * p.1.1 + q + 1 := by unfold posHi; rw [hN, hd, if_neg hr, elo]
      rw [elo, ehi]
      ((repeat (first | refine ya (by (with_reducible constructor) <;> first | rfl | decide) ?_ | apply yb | refine yc rfl ?_ | ((first | apply yd | apply ye); simp (disch := first | exact List.all_nil | omega | (simp only [go_sem]; done) | (simp only [ln, List.length_map]; omega) | (repeat' first | assumption | exact Ext.refl _ | refine Ext.app ?_ _)) only [go_sem, fill2i, store_b2 j2]; with_reducible rfl))))
      refine fin_l2f rfl (get_set_self j2) ⟨rfl, xH3.set (by omega) _⟩
end
end Go.Lq

namespace Go.Lq
open Go
open Go.Proofs

section
variable {H : AHeap}
theorem bfloorL_c (n b : Int) (hb : 0 < b ∧ b ≤ 1000000000000) (hn : -4000000000000000000 ≤ n ∧ n ≤ 4000000000000000000) :
    ACall Go.Proofs.Tryd.prog 54 [.int .i64 n, .int .i64 b] H fun v H' => v = .int .i64 (n / b) ∧ H' = H := by
  have e1 : n.tdiv b = if 0 ≤ n ∨ b ∣ n then n / b else n / b + 1 := by
    rw [Int.tdiv_eq_ediv]
    have : b.sign = 1 := Int.sign_eq_one_of_pos hb.1
    rw [this]
    split <;> omega
  have e2 : n.tmod b = if 0 ≤ n ∨ b ∣ n then n % b else n % b - b := by
    rw [Int.tmod_eq_emod]
    split <;> omega
  have h1 := Int.emod_nonneg n (show b ≠ 0 by omega)
  have h2 := Int.emod_lt_of_pos n hb.1
  have hq : -4000000000000000000 ≤ n / b ∧ n / b ≤ 4000000000000000000 := by
    constructor
    · refine Int.le_ediv_of_mul_le hb.1 ?_
      have : (-4000000000000000000 : Int) * b ≤ -4000000000000000000 * 1 := Int.mul_le_mul_of_nonpos_left (by omega) (by omega)
      omega
    · by_cases h : 0 ≤ n
      · exact Int.le_trans (Int.ediv_le_self _ h) hn.2
      · have := Int.ediv_neg_of_neg_of_pos (by omega : n < 0) hb.1
        omega
  have hq2 : -4000000000000000001 ≤ n.tdiv b ∧ n.tdiv b ≤ 4000000000000000001 := by rw [e1]; split <;> omega
  (refine a54 ?_; simp only [n54, List.replicate, List.length_cons, List.length_nil, List.cons_append, List.nil_append]; first | refine q1 ?_ | refine q2 ?_ | refine q6 ?_ | refine q7 ?_ | refine qh rfl ?_ | skip)
  ((repeat (first | refine ya (by (with_reducible constructor) <;> first | rfl | decide) ?_ | apply yb | refine yc rfl ?_ | ((first | apply yd | apply ye); simp (disch := first | exact List.all_nil | omega | (simp only [go_sem]; done) | (simp only [ln, List.length_map]; omega) | (repeat' first | assumption | exact Ext.refl _ | refine Ext.app ?_ _)) only [go_sem]; with_reducible rfl))))
  refine cond_p rfl (fun hneg => ?_) (fun hpos => ?_)
  · ((repeat (first | refine ya (by (with_reducible constructor) <;> first | rfl | decide) ?_ | apply yb | refine yc rfl ?_ | ((first | apply yd | apply ye); simp (disch := first | exact List.all_nil | omega | (simp only [go_sem]; done) | (simp only [ln, List.length_map]; omega) | (repeat' first | assumption | exact Ext.refl _ | refine Ext.app ?_ _)) only [go_sem]; with_reducible rfl))))
    refine fin_1 ⟨?_, rfl⟩
    rw [e2] at hneg
    rw [e1]
    split at hneg
    · omega
    · rename_i h
      rw [if_neg h]
      simp
  · ((repeat (first | refine ya (by (with_reducible constructor) <;> first | rfl | decide) ?_ | apply yb | refine yc rfl ?_ | ((first | apply yd | apply ye); simp (disch := first | exact List.all_nil | omega | (simp only [go_sem]; done) | (simp only [ln, List.length_map]; omega) | (repeat' first | assumption | exact Ext.refl _ | refine Ext.app ?_ _)) only [go_sem]; with_reducible rfl))))
    refine fin_1 ⟨?_, rfl⟩
    rw [e2] at hpos
    rw [e1]
    split at hpos
    · rename_i h; rw [if_pos h]; rfl
    · omega
theorem bceilL_c (n b : Int) (hb : 0 < b ∧ b ≤ 1000000000000) (hn : -4000000000000000000 ≤ n ∧ n ≤ 4000000000000000000) :
    ACall Go.Proofs.Tryd.prog 84 [.int .i64 n, .int .i64 b] H fun v H' => v = .int .i64 (-(-n / b)) ∧ H' = H := by
  have m2 := ediv_bound (n := -n) (b := b) (m := 4000000000000000000) hb.1 ⟨by omega, by omega⟩
  (refine a84 ?_; simp only [n84, List.replicate, List.length_cons, List.length_nil, List.cons_append, List.nil_append]; first | refine q1 ?_ | refine q2 ?_ | refine q6 ?_ | refine q7 ?_ | refine qh rfl ?_ | skip)
  ((repeat (first | refine ya (by (with_reducible constructor) <;> first | rfl | decide) ?_ | apply yb | refine yc rfl ?_ | ((first | apply yd | apply ye); simp (disch := first | exact List.all_nil | omega | (simp only [go_sem]; done) | (simp only [ln, List.length_map]; omega) | (repeat' first | assumption | exact Ext.refl _ | refine Ext.app ?_ _)) only [go_sem]; with_reducible rfl))))
  refine aops_call_to (bfloorL_c _ _ hb (by omega)) ?_
  rw [Int.zero_sub]
  ((repeat (first | refine ya (by (with_reducible constructor) <;> first | rfl | decide) ?_ | apply yb | refine yc rfl ?_ | ((first | apply yd | apply ye); simp (disch := first | exact List.all_nil | omega | (simp only [go_sem]; done) | (simp only [ln, List.length_map]; omega) | (repeat' first | assumption | exact Ext.refl _ | refine Ext.app ?_ _)) only [go_sem]; with_reducible rfl))))
  exact fin_1 ⟨by simp, rfl⟩

end
end Go.Lq

namespace Go.Lq
open Go
open Go.Proofs

section
variable {H : AHeap}
theorem sfloorL_c (n b : Int) (hb : 0 < b ∧ b ≤ 1000000000000) (hn : -4000000000000000000 ≤ n ∧ n ≤ 4000000000000000000) :
    ACall Go.Proofs.Tryd.prog 109 [.int .i64 n, .int .i64 b] H fun v H' => v = .int .i64 (n / b) ∧ H' = H := by
  have e1 : n.tdiv b = if 0 ≤ n ∨ b ∣ n then n / b else n / b + 1 := by
    rw [Int.tdiv_eq_ediv]
    have : b.sign = 1 := Int.sign_eq_one_of_pos hb.1
    rw [this]
    split <;> omega
  have e2 : n.tmod b = if 0 ≤ n ∨ b ∣ n then n % b else n % b - b := by
    rw [Int.tmod_eq_emod]
    split <;> omega
  have h1 := Int.emod_nonneg n (show b ≠ 0 by omega)
  have h2 := Int.emod_lt_of_pos n hb.1
  have hq := ediv_bound (n := n) (b := b) (m := 4000000000000000000) hb.1 ⟨by omega, by omega⟩
  have hq2 : -4000000000000000001 ≤ n.tdiv b ∧ n.tdiv b ≤ 4000000000000000001 := by rw [e1]; split <;> omega
  (refine a109 ?_; simp only [n109, List.replicate, List.length_cons, List.length_nil, List.cons_append, List.nil_append]; first | refine q1 ?_ | refine q2 ?_ | refine q6 ?_ | refine q7 ?_ | refine qh rfl ?_ | skip)
  ((repeat (first | refine ya (by (with_reducible constructor) <;> first | rfl | decide) ?_ | apply yb | refine yc rfl ?_ | ((first | apply yd | apply ye); simp (disch := first | exact List.all_nil | omega | (simp only [go_sem]; done) | (simp only [ln, List.length_map]; omega) | (repeat' first | assumption | exact Ext.refl _ | refine Ext.app ?_ _)) only [go_sem]; with_reducible rfl))))
  refine cond_p rfl (fun hneg => ?_) (fun hpos => ?_)
  · ((repeat (first | refine ya (by (with_reducible constructor) <;> first | rfl | decide) ?_ | apply yb | refine yc rfl ?_ | ((first | apply yd | apply ye); simp (disch := first | exact List.all_nil | omega | (simp only [go_sem]; done) | (simp only [ln, List.length_map]; omega) | (repeat' first | assumption | exact Ext.refl _ | refine Ext.app ?_ _)) only [go_sem]; with_reducible rfl))))
    refine fin_1 ⟨?_, rfl⟩
    rw [e2] at hneg
    rw [e1]
    split at hneg
    · omega
    · rename_i h
      rw [if_neg h]
      simp
  · ((repeat (first | refine ya (by (with_reducible constructor) <;> first | rfl | decide) ?_ | apply yb | refine yc rfl ?_ | ((first | apply yd | apply ye); simp (disch := first | exact List.all_nil | omega | (simp only [go_sem]; done) | (simp only [ln, List.length_map]; omega) | (repeat' first | assumption | exact Ext.refl _ | refine Ext.app ?_ _)) only [go_sem]; with_reducible rfl))))
    refine fin_1 ⟨?_, rfl⟩
    rw [e2] at hpos
    rw [e1]
    split at hpos
    · rename_i h; rw [if_pos h]; rfl
    · omega
theorem sceilL_c (n b : Int) (hb : 0 < b ∧ b ≤ 1000000000000) (hn : -4000000000000000000 ≤ n ∧ n ≤ 4000000000000000000) :
    ACall Go.Proofs.Tryd.prog 111 [.int .i64 n, .int .i64 b] H fun v H' => v = .int .i64 (-(-n / b)) ∧ H' = H := by
  have m2 := ediv_bound (n := -n) (b := b) (m := 4000000000000000000) hb.1 ⟨by omega, by omega⟩
  (refine a111 ?_; simp only [n111, List.replicate, List.length_cons, List.length_nil, List.cons_append, List.nil_append]; first | refine q1 ?_ | refine q2 ?_ | refine q6 ?_ | refine q7 ?_ | refine qh rfl ?_ | skip)
  ((repeat (first | refine ya (by (with_reducible constructor) <;> first | rfl | decide) ?_ | apply yb | refine yc rfl ?_ | ((first | apply yd | apply ye); simp (disch := first | exact List.all_nil | omega | (simp only [go_sem]; done) | (simp only [ln, List.length_map]; omega) | (repeat' first | assumption | exact Ext.refl _ | refine Ext.app ?_ _)) only [go_sem]; with_reducible rfl))))
  refine aops_call_to (sfloorL_c _ _ hb (by omega)) ?_
  ((repeat (first | refine ya (by (with_reducible constructor) <;> first | rfl | decide) ?_ | apply yb | refine yc rfl ?_ | ((first | apply yd | apply ye); simp (disch := first | exact List.all_nil | omega | (simp only [go_sem]; done) | (simp only [ln, List.length_map]; omega) | (repeat' first | assumption | exact Ext.refl _ | refine Ext.app ?_ _)) only [go_sem]; with_reducible rfl))))
  have e : w64 (-(-n / b)) = -(-n / b) := w64_id (by omega) (by omega)
  exact fin_1 ⟨by simp [e], rfl⟩
theorem timeAtP_c {p : (Int × Int) × (Int × Int)} {n : Int} (p1 : 0 ≤ p.1.1 ∧ p.1.1 ≤ 1000000) (p2 : 0 ≤ p.2.1 ∧ p.2.1 ≤ 1000000) (p3 : 0 ≤ p.1.2 ∧ p.1.2 ≤ 1000000000000) (p4 : 0 ≤ p.2.2 ∧ p.2.2 ≤ 1000000000000)
    (p5 : p.1.1 < p.2.1) (p6 : p.1.2 < p.2.2) (h1 : p.1.1 ≤ n) (h2 : n ≤ p.2.1) : ACall Go.Proofs.Tryd.prog 108 [pieceV p, .int .i64 n] H fun v H' => v = .int .i64 (timN p n) ∧ H' = H := by
  refine ACall.drop (.int _ _) ?_
  obtain ⟨m1, m2⟩ := timN_bound p1 p2 p3 p4 p5 p6 h1 h2
  (refine a108 ?_; simp only [n108, List.replicate, List.length_cons, List.length_nil, List.cons_append, List.nil_append]; first | refine q1 ?_ | refine q2 ?_ | refine q6 ?_ | refine q7 ?_ | refine qh rfl ?_ | skip)
  have g0 : (H ++ [AObj.cells true 0 (pieceC p)])[H.length]? = some (.cells true 0 (pieceC p)) := at_new
  have xG : Ext H (H ++ [AObj.cells true 0 (pieceC p)]) := (Ext.refl H).app _
  (repeat (first | refine ya (by (with_reducible constructor) <;> first | rfl | decide) ?_ | (apply yd; simp (disch := first | exact List.all_nil | omega | (simp only [go_sem]; done) | (simp only [ln, List.length_map]; omega) | (repeat' first | assumption | exact Ext.refl _ | refine Ext.app ?_ _)) only [go_sem, box_piece]; with_reducible rfl)))
  generalize (H ++ [AObj.cells true 0 (pieceC p)] : AHeap) = G at g0 xG
  ((repeat (first | refine ya (by (with_reducible constructor) <;> first | rfl | decide) ?_ | apply yb | refine yc rfl ?_ | ((first | apply yd | apply ye); simp (disch := first | exact List.all_nil | omega | (simp only [go_sem]; done) | (simp only [ln, List.length_map]; omega) | (repeat' first | assumption | exact Ext.refl _ | refine Ext.app ?_ _)) only [go_sem, load_at g0, load_piece g0, pieceC]; with_reducible rfl))))
  refine adraw_call (N := []) (firstD (positions_c ⟨by omega, by omega⟩)) ?_
  rw [List.append_nil]
  ((repeat (first | refine ya (by (with_reducible constructor) <;> first | rfl | decide) ?_ | apply yb | refine yc rfl ?_ | ((first | apply yd | apply ye); simp (disch := first | exact List.all_nil | omega | (simp only [go_sem]; done) | (simp only [ln, List.length_map]; omega) | (repeat' first | assumption | exact Ext.refl _ | refine Ext.app ?_ _)) only [go_sem, load_piece g0]; with_reducible rfl))))
  refine adraw_call (N := []) (firstD (times_c ⟨by omega, by omega⟩)) ?_
  rw [List.append_nil]
  ((repeat (first | refine ya (by (with_reducible constructor) <;> first | rfl | decide) ?_ | apply yb | refine yc rfl ?_ | ((first | apply yd | apply ye); simp (disch := first | exact List.all_nil | omega | (simp only [go_sem]; done) | (simp only [ln, List.length_map]; omega) | (repeat' first | assumption | exact Ext.refl _ | refine Ext.app ?_ _)) only [go_sem, load_at g0, pieceC]; with_reducible rfl))))
  exact fin_1 ⟨rfl, xG⟩
theorem pieceAt1_c {t : Int} {q : (Int × Int) × (Int × Int)} {id : Nat} (h : H[id]? = some (.cells true 0 [.int .i64 t])) : ACall Go.Proofs.Tryd.prog 140 [pieceV q, .pointer (some ⟨id, 0, none⟩)] H fun v H' => v = .bool (inPos t q) ∧ H' = H := by
  refine ACall.drop (.bool _) ?_
  (refine a140 ?_; simp only [n140, List.replicate, List.length_cons, List.length_nil, List.cons_append, List.nil_append]; first | refine q1 ?_ | refine q2 ?_ | refine q6 ?_ | refine q7 ?_ | refine qh rfl ?_ | skip)
  have g0 : (H ++ [AObj.cells true 0 (pieceC q)])[H.length]? = some (.cells true 0 (pieceC q)) := at_new
  have xG : Ext H (H ++ [AObj.cells true 0 (pieceC q)]) := (Ext.refl H).app _
  have h1 := xG.cell h
  (repeat (first | refine ya (by (with_reducible constructor) <;> first | rfl | decide) ?_ | (apply yd; simp (disch := first | exact List.all_nil | omega | (simp only [go_sem]; done) | (simp only [ln, List.length_map]; omega) | (repeat' first | assumption | exact Ext.refl _ | refine Ext.app ?_ _)) only [go_sem, box_piece]; with_reducible rfl)))
  generalize (H ++ [AObj.cells true 0 (pieceC q)] : AHeap) = G at g0 xG h1
  ((repeat (first | refine ya (by (with_reducible constructor) <;> first | rfl | decide) ?_ | apply yb | refine yc rfl ?_ | ((first | apply yd | apply ye); simp (disch := first | exact List.all_nil | omega | (simp only [go_sem]; done) | (simp only [ln, List.length_map]; omega) | (repeat' first | assumption | exact Ext.refl _ | refine Ext.app ?_ _)) only [go_sem, load_at g0, load_at h1, pieceC]; with_reducible rfl))))
  refine aops_call_to (swithin_c _ _ _) ?_
  ((repeat (first | refine ya (by (with_reducible constructor) <;> first | rfl | decide) ?_ | apply yb | refine yc rfl ?_ | ((first | apply yd | apply ye); simp (disch := first | exact List.all_nil | omega | (simp only [go_sem]; done) | (simp only [ln, List.length_map]; omega) | (repeat' first | assumption | exact Ext.refl _ | refine Ext.app ?_ _)) only [go_sem]; with_reducible rfl))))
  exact fin_1 ⟨rfl, xG⟩
theorem pieceAt_c {l : List (Int × Int)} {v : Value} {t : Int} (hl : Pairs H l v) (h2 : 1 ≤ l.length) (hb : l.length ≤ 1000) : ACall Go.Proofs.Tryd.prog 107 [.agg ⟨[v]⟩, .int .i64 t] H fun w H' =>
    w = .tuple #[pieceV (findR (findP (inPos t) l 0 (l.length - 1)) l).1, .bool (findR (findP (inPos t) l 0 (l.length - 1)) l).2] ∧ H' = H := by
  refine ACall.drop (closed_pieceB _ _) ?_
  (refine a107 ?_; simp only [n107, List.replicate, List.length_cons, List.length_nil, List.cons_append, List.nil_append]; first | refine q1 ?_ | refine q2 ?_ | refine q6 ?_ | refine q7 ?_ | refine qh rfl ?_ | skip)
  obtain ⟨G, hG⟩ : ∃ G, G = H ++ [AObj.cells true 0 [v]] ++ [AObj.cells true 0 [.int .i64 t]] ++ [AObj.cells true 0 [.int .i64 0, .int .i64 0, .int .i64 0, .int .i64 0]] := ⟨_, rfl⟩
  have g0 : G[H.length]? = some (.cells true 0 [v]) := by rw [hG]; simp
  have g1 : G[H.length + 1]? = some (.cells true 0 [.int .i64 t]) := by rw [hG]; simp
  have g2 : G[H.length + 2]? = some (.cells true 0 (pieceC zeroP)) := by rw [hG]; simp [pieceC, zeroP]
  have xG : Ext H G := by rw [hG]; exact (((Ext.refl H).app _).app _).app _
  have hbi : ∀ J : AHeap, boxR (.int .i64 t) J = some (.pointer (some ⟨J.length, 0, none⟩), J ++ [.cells true 0 [.int .i64 t]]) := fun J => rfl
  (repeat (first | refine ya (by (with_reducible constructor) <;> first | rfl | decide) ?_ | (apply yd; simp (disch := first | exact List.all_nil | omega | (simp only [go_sem]; done) | (simp only [ln, List.length_map]; omega) | (repeat' first | assumption | exact Ext.refl _ | refine Ext.app ?_ _)) only [go_sem, hl.box1, hbi]; with_reducible rfl)))
  (simp only [List.length_append, List.length_cons, List.length_nil, Nat.zero_add, Nat.add_assoc, Nat.reduceAdd])
  rw [← hG]
  clear hG
  ((repeat (first | refine ya (by (with_reducible constructor) <;> first | rfl | decide) ?_ | apply yb | refine yc rfl ?_ | ((first | apply yd | apply ye); simp (disch := first | exact List.all_nil | omega | (simp only [go_sem]; done) | (simp only [ln, List.length_map]; omega) | (repeat' first | assumption | exact Ext.refl _ | refine Ext.app ?_ _)) only [go_sem, n1_at g0]; with_reducible rfl))))
  refine aops_call_to (find_c (g := 140) (ad := ⟨H.length + 1, 0, none⟩) (p := inPos t) (hl.ext xG) h2 hb (fun J hJ i hi => pieceAt1_c (hJ.cell g1))) ?_
  generalize findP (inPos t) l 0 (l.length - 1) = o
  ((repeat (first | refine ya (by (with_reducible constructor) <;> first | rfl | decide) ?_ | apply yb | refine yc rfl ?_ | ((first | apply yd | apply ye); simp (disch := first | exact List.all_nil | omega | (simp only [go_sem]; done) | (simp only [ln, List.length_map]; omega) | (repeat' first | assumption | exact Ext.refl _ | refine Ext.app ?_ _)) only [go_sem, store_at4 (q := zeroP) (p := (findR o l).1) g2]; with_reducible rfl))))
  refine fin_l2 (u := pieceV (findR o l).1) (loadN_at (k := 0) (get_set_self g2) (by simp [pieceC])) ⟨rfl, xG.set (by omega) _⟩
set_option maxHeartbeats 4000000 in
theorem sTimeAt_c {l : List (Int × Int)} {v : Value} {n : Int} (hl : Pairs H l v) (hok : MapOk l) (h0 : (l.getD 0 (0, 0)).1 ≤ n) (h1 : n ≤ (l.getD (l.length - 1) (0, 0)).1) : ACall Go.Proofs.Tryd.prog 51 [.agg ⟨[v]⟩, .int .i64 n] H fun w H' =>
    w = .tuple #[fracV (timLo (pieceOf l (atPos l n 0 (l.length - 2))) n, timHi (pieceOf l (atPos l n 0 (l.length - 2))) n), .int .i64 0] ∧ H' = H := by
  refine ACall.drop (closed_frac1 _ _) ?_
  have h20 := hok.hi
  have h02 := hok.lo
  (refine a51 ?_; simp only [n51, List.replicate, List.length_cons, List.length_nil, List.cons_append, List.nil_append]; first | refine q1 ?_ | refine q2 ?_ | refine q6 ?_ | refine q7 ?_ | refine qh rfl ?_ | skip)
  obtain ⟨G, hG⟩ : ∃ G, G = H ++ [AObj.cells true 0 [v]] ++ [AObj.cells true 0 [.int .i64 0, .int .i64 0]] := ⟨_, rfl⟩
  have g0 : G[H.length]? = some (.cells true 0 [v]) := by rw [hG]; simp
  have g2 : G[H.length + 1]? = some (.cells true 0 [.int .i64 0, .int .i64 0]) := by rw [hG]; simp
  have xG : Ext H G := by rw [hG]; exact ((Ext.refl H).app _).app _
  have hf1 : fillA [.slice none 0 0] [(0, 1, .agg ⟨[v]⟩)] = some [v] := fill1v hl.atom
  have hms : ∀ J : AHeap, mkSliceL 1 1 (some [v]) J = some (.slice (some ⟨J.length, 0, none⟩) 1 1, J ++ [.cells true 1 [v]]) := fun J => mkSliceL_some (by simp [hl.atom])
  (repeat (first | refine ya (by (with_reducible constructor) <;> first | rfl | decide) ?_ | (apply yd; simp (disch := first | exact List.all_nil | omega | (simp only [go_sem]; done) | (simp only [ln, List.length_map]; omega) | (repeat' first | assumption | exact Ext.refl _ | refine Ext.app ?_ _)) only [go_sem, hl.box1]; with_reducible rfl)))
  (simp only [List.length_append, List.length_cons, List.length_nil, Nat.zero_add, Nat.add_assoc, Nat.reduceAdd])
  rw [← hG]
  clear hG
  ((repeat (first | refine ya (by (with_reducible constructor) <;> first | rfl | decide) ?_ | apply yb | refine yc rfl ?_ | ((first | apply yd | apply ye); simp (disch := first | exact List.all_nil | omega | (simp only [go_sem]; done) | (simp only [ln, List.length_map]; omega) | (repeat' first | assumption | exact Ext.refl _ | refine Ext.app ?_ _)) only [go_sem, n1_at g0, hf1, hms]; with_reducible rfl))))
  have hS : Sl (G ++ [AObj.cells true 1 [v]]) 1 1 [v] (.slice (some ⟨G.length, 0, none⟩) 1 1) := Sl.last rfl 1
  have x2 : Ext G (G ++ [AObj.cells true 1 [v]]) := (Ext.refl G).app _
  generalize (G ++ [AObj.cells true 1 [v]] : AHeap) = G2 at hS x2
  have xH2 := xG.trans x2
  have k0 := x2.cell g0
  have k2 := x2.cell g2
  refine aops_call_to (spMapErr_c hS (hl.ext xH2) (by omega)) ?_
  have hz := hok.err
  ((repeat (first | refine ya (by (with_reducible constructor) <;> first | rfl | decide) ?_ | apply yb | refine yc rfl ?_ | ((first | apply yd | apply ye); simp (disch := first | exact List.all_nil | omega | (simp only [go_sem]; done) | (simp only [ln, List.length_map]; omega) | (repeat' first | assumption | exact Ext.refl _ | refine Ext.app ?_ _)) only [go_sem, hz]; with_reducible rfl))))
  refine cond_f rfl ?_
  ((repeat (first | refine ya (by (with_reducible constructor) <;> first | rfl | decide) ?_ | apply yb | refine yc rfl ?_ | ((first | apply yd | apply ye); simp (disch := first | exact List.all_nil | omega | (simp only [go_sem]; done) | (simp only [ln, List.length_map]; omega) | (repeat' first | assumption | exact Ext.refl _ | refine Ext.app ?_ _)) only [go_sem, n1_at k0]; with_reducible rfl))))
  refine aops_call_to (pieceAt_c (hl.ext xH2) (by omega) (by omega)) ?_
  rw [hok.posOne h0 (k := l.length - 1) (i := 0) (by omega) (fun m hm => by omega) h1, if_neg (by omega), Nat.sub_sub]
  obtain ⟨a1, a2⟩ := atPos_in (l := l) (t := n) (k := l.length - 2) (i := 0) (by omega) h0
  have a3 := atPos_up (l := l) (t := n) (k := l.length - 2) (i := 0) (by omega) h1
  generalize atPos l n 0 (l.length - 2) = i at *
  have p1 : 0 ≤ (pieceOf l i).1.1 ∧ (pieceOf l i).1.1 ≤ 1000000 := hok.pos i (by omega)
  have p2 : 0 ≤ (pieceOf l i).2.1 ∧ (pieceOf l i).2.1 ≤ 1000000 := hok.pos (i + 1) (by omega)
  have p3 : 0 ≤ (pieceOf l i).1.2 ∧ (pieceOf l i).1.2 ≤ 1000000000000 := hok.time i (by omega)
  have p4 : 0 ≤ (pieceOf l i).2.2 ∧ (pieceOf l i).2.2 ≤ 1000000000000 := hok.time (i + 1) (by omega)
  have p5 : (pieceOf l i).1.1 < (pieceOf l i).2.1 := hok.posUp i (by omega)
  have p6 : (pieceOf l i).1.2 < (pieceOf l i).2.2 := hok.timeUp i (by omega)
  have p7 : (pieceOf l i).1.1 ≤ n := a2
  have p8 : n ≤ (pieceOf l i).2.1 := a3
  have ef : (findR (some i) l) = (pieceOf l i, true) := rfl
  rw [ef]
  generalize pieceOf l i = p at *
  have hst : storeR 4 (.pointer (some ⟨G2.length, 0, none⟩)) (pieceV p) (G2 ++ [.cells true 0 [.int .i64 0, .int .i64 0, .int .i64 0, .int .i64 0]]) = some (undef, G2 ++ [.cells true 0 (pieceC p)]) := store_new4 rfl
  ((repeat (first | refine ya (by (with_reducible constructor) <;> first | rfl | decide) ?_ | apply yb | refine yc rfl ?_ | ((first | apply yd | apply ye); simp (disch := first | exact List.all_nil | omega | (simp only [go_sem]; done) | (simp only [ln, List.length_map]; omega) | (repeat' first | assumption | exact Ext.refl _ | refine Ext.app ?_ _)) only [go_sem, hst]; with_reducible rfl))))
  have b7 : (G2 ++ [AObj.cells true 0 (pieceC p)])[G2.length]? = some (.cells true 0 (pieceC p)) := at_new
  have x3 : Ext G2 (G2 ++ [AObj.cells true 0 (pieceC p)]) := (Ext.refl G2).app _
  generalize (G2 ++ [AObj.cells true 0 (pieceC p)] : AHeap) = G3 at b7 x3
  have xH3 := xH2.trans x3
  have j2 := x3.cell k2
  refine cond_f rfl ?_
  ((repeat (first | refine ya (by (with_reducible constructor) <;> first | rfl | decide) ?_ | apply yb | refine yc rfl ?_ | ((first | apply yd | apply ye); simp (disch := first | exact List.all_nil | omega | (simp only [go_sem]; done) | (simp only [ln, List.length_map]; omega) | (repeat' first | assumption | exact Ext.refl _ | refine Ext.app ?_ _)) only [go_sem, load_piece b7]; with_reducible rfl))))
  refine aops_call_to (timeAtP_c p1 p2 p3 p4 p5 p6 p7 p8) ?_
  obtain ⟨m1, m2⟩ := timN_bound p1 p2 p3 p4 p5 p6 p7 p8
  have m3 : 0 ≤ timN p n ∧ timN p n ≤ 2000000000000000000 := by unfold timN; omega
  have e1 : timN p n / (p.2.1 - p.1.1) = timLo p n := rfl
  have e2 : -(-timN p n / (p.2.1 - p.1.1)) = timHi p n := rfl
  ((repeat (first | refine ya (by (with_reducible constructor) <;> first | rfl | decide) ?_ | apply yb | refine yc rfl ?_ | ((first | apply yd | apply ye); simp (disch := first | exact List.all_nil | omega | (simp only [go_sem]; done) | (simp only [ln, List.length_map]; omega) | (repeat' first | assumption | exact Ext.refl _ | refine Ext.app ?_ _)) only [go_sem, load_piece b7]; with_reducible rfl))))
  refine adraw_call (N := []) (firstD (positions_c ⟨by omega, by omega⟩)) ?_
  rw [List.append_nil]
  ((repeat (first | refine ya (by (with_reducible constructor) <;> first | rfl | decide) ?_ | apply yb | refine yc rfl ?_ | ((first | apply yd | apply ye); simp (disch := first | exact List.all_nil | omega | (simp only [go_sem]; done) | (simp only [ln, List.length_map]; omega) | (repeat' first | assumption | exact Ext.refl _ | refine Ext.app ?_ _)) only [go_sem]; with_reducible rfl))))
  refine adraw_call (N := []) (firstD (sfloorL_c _ _ (by omega) (by omega))) ?_
  rw [List.append_nil]
  ((repeat (first | refine ya (by (with_reducible constructor) <;> first | rfl | decide) ?_ | apply yb | refine yc rfl ?_ | ((first | apply yd | apply ye); simp (disch := first | exact List.all_nil | omega | (simp only [go_sem]; done) | (simp only [ln, List.length_map]; omega) | (repeat' first | assumption | exact Ext.refl _ | refine Ext.app ?_ _)) only [go_sem, load_piece b7]; with_reducible rfl))))
  refine adraw_call (N := []) (firstD (positions_c ⟨by omega, by omega⟩)) ?_
  rw [List.append_nil]
  ((repeat (first | refine ya (by (with_reducible constructor) <;> first | rfl | decide) ?_ | apply yb | refine yc rfl ?_ | ((first | apply yd | apply ye); simp (disch := first | exact List.all_nil | omega | (simp only [go_sem]; done) | (simp only [ln, List.length_map]; omega) | (repeat' first | assumption | exact Ext.refl _ | refine Ext.app ?_ _)) only [go_sem]; with_reducible rfl))))
  refine adraw_call (N := []) (firstD (sceilL_c _ _ (by omega) (by omega))) ?_
  rw [List.append_nil]
  ((repeat (first | refine ya (by (with_reducible constructor) <;> first | rfl | decide) ?_ | apply yb | refine yc rfl ?_ | ((first | apply yd | apply ye); simp (disch := first | exact List.all_nil | omega | (simp only [go_sem]; done) | (simp only [ln, List.length_map]; omega) | (repeat' first | assumption | exact Ext.refl _ | refine Ext.app ?_ _)) only [go_sem, e1, e2, fill2i, store_b2 j2]; with_reducible rfl))))
  refine fin_l2f rfl (get_set_self j2) ⟨rfl, xH3.set (by omega) _⟩
set_option maxHeartbeats 4000000 in
theorem rtimeAt_c {l : List (Int × Int)} {v : Value} {t : Int} (hl : Pairs H l v) (hok : MapOk l) (ht0 : (l.getD 0 (0, 0)).1 ≤ t) (ht1 : t ≤ (l.getD (l.length - 1) (0, 0)).1) :
    ACall Go.Proofs.Tryd.prog 112 [.agg ⟨[v]⟩, .int .i64 t] H fun w H' =>
      w = .tuple #[.int .i64 (timN (pieceOf l (atPos l t 0 (l.length - 2))) t), .int .i64 ((pieceOf l (atPos l t 0 (l.length - 2))).2.1 - (pieceOf l (atPos l t 0 (l.length - 2))).1.1)] ∧ H' = H := by
  refine ACall.drop (closed_two _ _) ?_
  have h20 := hok.hi
  have h02 := hok.lo
  (refine a112 ?_; simp only [n112, List.replicate, List.length_cons, List.length_nil, List.cons_append, List.nil_append]; first | refine q1 ?_ | refine q2 ?_ | refine q6 ?_ | refine q7 ?_ | refine qh rfl ?_ | skip)
  have g0 : (H ++ [AObj.cells true 0 [v]])[H.length]? = some (.cells true 0 [v]) := at_new
  have xG : Ext H (H ++ [AObj.cells true 0 [v]]) := (Ext.refl H).app _
  have lG : (H ++ [AObj.cells true 0 [v]]).length = H.length + 1 := by simp
  (repeat (first | refine ya (by (with_reducible constructor) <;> first | rfl | decide) ?_ | (apply yd; simp (disch := first | exact List.all_nil | omega | (simp only [go_sem]; done) | (simp only [ln, List.length_map]; omega) | (repeat' first | assumption | exact Ext.refl _ | refine Ext.app ?_ _)) only [go_sem, hl.box1]; with_reducible rfl)))
  generalize (H ++ [AObj.cells true 0 [v]] : AHeap) = G at g0 xG lG
  have hlg := hl.ext xG
  refine awp_midB [false, true, true, false, true, true, true, false, false, false, false, false, false, false, false, false, false, false, false, false, false, false, false, false, false, false, false, false, false, false, false, false, false, false, false, false, false, false, false, false, false, false, false, false, false, false, false, false, false, false, false, false, false] (fun e J => J = G ∧ ∃ i : Nat, i + 1 < l.length ∧ (∀ m, m < i → (l.getD (m + 1) (0, 0)).1 < t) ∧ t ≤ (l.getD (i + 1) (0, 0)).1 ∧ i = atPos l t 0 (l.length - 2) ∧ e = [junk, .int .i64 t, .pointer (some ⟨H.length, 0, none⟩), junk, .int .i64 0, .int .i64 0, .int .i64 i, junk, junk, junk, junk, junk, junk, junk, junk, junk, junk, junk, junk, junk, junk, junk, junk, junk, junk, junk, junk, junk, junk, junk, junk, junk, junk, junk, junk, junk, junk, junk, junk, junk, junk, junk, junk, junk, junk, junk, junk, junk, junk, junk, junk, junk, junk]) ?_ ?_
  · refine awp_loop_n [false, true, true, false, true, true, true, false, false, false, false, false, false, false, false, false, false, false, false, false, false, false, false, false, false, false, false, false, false, false, false, false, false, false, false, false, false, false, false, false, false, false, false, false, false, false, false, false, false, false, false, false, false] (l.length - 2) (fun i e J => J = G ∧ i + 1 < l.length ∧ (∀ m, m < i → (l.getD (m + 1) (0, 0)).1 < t) ∧ atPos l t 0 (l.length - 2) = atPos l t i (l.length - 2 - i) ∧ e = [junk, .int .i64 t, .pointer (some ⟨H.length, 0, none⟩), junk, .int .i64 0, .int .i64 0, .int .i64 i, junk, junk, junk, junk, junk, junk, junk, junk, junk, junk, junk, junk, junk, junk, junk, junk, junk, junk, junk, junk, junk, junk, junk, junk, junk, junk, junk, junk, junk, junk, junk, junk, junk, junk, junk, junk, junk, junk, junk, junk, junk, junk, junk, junk, junk, junk]) ?_ ?_
    · exact ⟨rfl, by omega, fun m hm => by omega, rfl, by simp [forget]⟩
    rintro i e J hi ⟨rfl, hi2, hm, hat, rfl⟩
    have e1 : (i : Int) + 1 = ((i + 1 : Nat) : Int) := by omega
    ((repeat (first | refine ya (by (with_reducible constructor) <;> first | rfl | decide) ?_ | apply yb | refine yc rfl ?_ | ((first | apply yd | apply ye); simp (disch := first | exact List.all_nil | omega | (simp only [go_sem]; done) | (simp only [ln, List.length_map]; omega) | (repeat' first | assumption | exact Ext.refl _ | refine Ext.app ?_ _)) only [go_sem, hlg.len, hlg.idx, hlg.load, load_at g0, e1]; with_reducible rfl))))
    refine cond_p rfl (fun hlt => ?_) (fun hge => ?_)
    · have hk : i + 2 < l.length := by
        refine Decidable.byContradiction fun hn => ?_
        rw [show l.length - 1 = i + 1 by omega] at ht1
        omega
      ((repeat (first | refine ya (by (with_reducible constructor) <;> first | rfl | decide) ?_ | apply yb | refine yc rfl ?_ | ((first | apply yd | apply ye); simp (disch := first | exact List.all_nil | omega | (simp only [go_sem]; done) | (simp only [ln, List.length_map]; omega) | (repeat' first | assumption | exact Ext.refl _ | refine Ext.app ?_ _)) only [go_sem]; with_reducible rfl))))
      refine ⟨by omega, rfl, by omega, fun m h2 => ?_, ?_, by simp [forget]⟩
      · by_cases e : m = i
        · subst e; exact hlt
        · exact hm m (by omega)
      · rw [hat, show l.length - 2 - i = (l.length - 2 - (i + 1)) + 1 by omega, atPos_succ, if_pos hlt]
    · ((repeat (first | refine ya (by (with_reducible constructor) <;> first | rfl | decide) ?_ | apply yb | refine yc rfl ?_ | ((first | apply yd | apply ye); simp (disch := first | exact List.all_nil | omega | (simp only [go_sem]; done) | (simp only [ln, List.length_map]; omega) | (repeat' first | assumption | exact Ext.refl _ | refine Ext.app ?_ _)) only [go_sem]; with_reducible rfl))))
      exact ⟨rfl, rfl, i, hi2, hm, by omega, by rw [hat, atPos_stop hge], by simp [forget]⟩
  rintro e J ⟨rfl, i, hi, hm, hti, hat, rfl⟩
  rw [← hat]
  have p1 : 0 ≤ (l.getD i (0, 0)).1 ∧ (l.getD i (0, 0)).1 ≤ 1000000 := hok.pos i (by omega)
  have p2 : 0 ≤ (l.getD (i + 1) (0, 0)).1 ∧ (l.getD (i + 1) (0, 0)).1 ≤ 1000000 := hok.pos (i + 1) (by omega)
  have p3 : 0 ≤ (l.getD i (0, 0)).2 ∧ (l.getD i (0, 0)).2 ≤ 1000000000000 := hok.time i (by omega)
  have p4 : 0 ≤ (l.getD (i + 1) (0, 0)).2 ∧ (l.getD (i + 1) (0, 0)).2 ≤ 1000000000000 := hok.time (i + 1) (by omega)
  have p5 : (l.getD i (0, 0)).1 < (l.getD (i + 1) (0, 0)).1 := hok.posUp i (by omega)
  have p6 : (l.getD i (0, 0)).2 < (l.getD (i + 1) (0, 0)).2 := hok.timeUp i (by omega)
  have hlo : (l.getD i (0, 0)).1 ≤ t := by
    cases i with
    | zero => exact ht0
    | succ i => exact Int.le_of_lt (hm i (by omega))
  obtain ⟨m1, m2⟩ := timN_bound (p := pieceOf l i) p1 p2 p3 p4 p5 p6 hlo hti
  have m1' : 0 ≤ (l.getD i (0, 0)).2 * ((l.getD (i + 1) (0, 0)).1 - (l.getD i (0, 0)).1) ∧ (l.getD i (0, 0)).2 * ((l.getD (i + 1) (0, 0)).1 - (l.getD i (0, 0)).1) ≤ 1000000000000000000 := m1
  have m2' : 0 ≤ ((l.getD (i + 1) (0, 0)).2 - (l.getD i (0, 0)).2) * (t - (l.getD i (0, 0)).1) ∧ ((l.getD (i + 1) (0, 0)).2 - (l.getD i (0, 0)).2) * (t - (l.getD i (0, 0)).1) ≤ 1000000000000000000 := m2
  have e1 : (i : Int) + 1 = ((i + 1 : Nat) : Int) := by omega
  have xJ := (xG.app [AObj.cells true 0 [.int .i64 (l.getD i (0, 0)).1, .int .i64 (l.getD i (0, 0)).2]]).app [AObj.cells true 0 [.int .i64 (l.getD (i + 1) (0, 0)).1, .int .i64 (l.getD (i + 1) (0, 0)).2]]
  ((repeat (first | refine ya (by (with_reducible constructor) <;> first | rfl | decide) ?_ | apply yb | refine yc rfl ?_ | ((first | apply yd | apply ye); simp (disch := first | exact List.all_nil | omega | (simp only [go_sem]; done) | (simp only [ln, List.length_map]; omega) | (repeat' first | assumption | exact Ext.refl _ | refine Ext.app ?_ _)) only [go_sem, hlg.len, hlg.idx, hlg.load, load_at g0, e1]; with_reducible rfl))))
  exact fin_2 ⟨rfl, xJ⟩
theorem rTimeAt_c {l : List (Int × Int)} {v : Value} {n : Int} (hl : Pairs H l v) (hok : MapOk l) (h0 : (l.getD 0 (0, 0)).1 ≤ n) (h1 : n ≤ (l.getD (l.length - 1) (0, 0)).1) : ACall Go.Proofs.Tryd.prog 53 [.agg ⟨[v]⟩, .int .i64 n] H fun w H' =>
    w = fracV (timLo (pieceOf l (atPos l n 0 (l.length - 2))) n, timHi (pieceOf l (atPos l n 0 (l.length - 2))) n) ∧ H' = H := by
  refine ACall.drop (closed_frac _) ?_
  have h20 := hok.hi
  have h02 := hok.lo
  (refine a53 ?_; simp only [n53, List.replicate, List.length_cons, List.length_nil, List.cons_append, List.nil_append]; first | refine q1 ?_ | refine q2 ?_ | refine q6 ?_ | refine q7 ?_ | refine qh rfl ?_ | skip)
  obtain ⟨G, hG⟩ : ∃ G, G = H ++ [AObj.cells true 0 [v]] ++ [AObj.cells true 0 [.int .i64 0, .int .i64 0]] := ⟨_, rfl⟩
  have g0 : G[H.length]? = some (.cells true 0 [v]) := by rw [hG]; simp
  have g2 : G[H.length + 1]? = some (.cells true 0 [.int .i64 0, .int .i64 0]) := by rw [hG]; simp
  have xG : Ext H G := by rw [hG]; exact ((Ext.refl H).app _).app _
  (repeat (first | refine ya (by (with_reducible constructor) <;> first | rfl | decide) ?_ | (apply yd; simp (disch := first | exact List.all_nil | omega | (simp only [go_sem]; done) | (simp only [ln, List.length_map]; omega) | (repeat' first | assumption | exact Ext.refl _ | refine Ext.app ?_ _)) only [go_sem, hl.box1]; with_reducible rfl)))
  (simp only [List.length_append, List.length_cons, List.length_nil, Nat.zero_add, Nat.add_assoc, Nat.reduceAdd])
  rw [← hG]
  clear hG
  ((repeat (first | refine ya (by (with_reducible constructor) <;> first | rfl | decide) ?_ | apply yb | refine yc rfl ?_ | ((first | apply yd | apply ye); simp (disch := first | exact List.all_nil | omega | (simp only [go_sem]; done) | (simp only [ln, List.length_map]; omega) | (repeat' first | assumption | exact Ext.refl _ | refine Ext.app ?_ _)) only [go_sem, n1_at g0]; with_reducible rfl))))
  refine aops_call_to (rtimeAt_c (hl.ext xG) hok h0 h1) ?_
  obtain ⟨a1, a2⟩ := atPos_in (l := l) (t := n) (k := l.length - 2) (i := 0) (by omega) h0
  have a3 := atPos_up (l := l) (t := n) (k := l.length - 2) (i := 0) (by omega) h1
  generalize atPos l n 0 (l.length - 2) = i at *
  have p1 : 0 ≤ (pieceOf l i).1.1 ∧ (pieceOf l i).1.1 ≤ 1000000 := hok.pos i (by omega)
  have p2 : 0 ≤ (pieceOf l i).2.1 ∧ (pieceOf l i).2.1 ≤ 1000000 := hok.pos (i + 1) (by omega)
  have p3 : 0 ≤ (pieceOf l i).1.2 ∧ (pieceOf l i).1.2 ≤ 1000000000000 := hok.time i (by omega)
  have p4 : 0 ≤ (pieceOf l i).2.2 ∧ (pieceOf l i).2.2 ≤ 1000000000000 := hok.time (i + 1) (by omega)
  have p5 : (pieceOf l i).1.1 < (pieceOf l i).2.1 := hok.posUp i (by omega)
  have p6 : (pieceOf l i).1.2 < (pieceOf l i).2.2 := hok.timeUp i (by omega)
  obtain ⟨m1, m2⟩ := timN_bound (p := pieceOf l i) p1 p2 p3 p4 p5 p6 a2 a3
  generalize pieceOf l i = p at *
  have m3 : 0 ≤ timN p n ∧ timN p n ≤ 2000000000000000000 := by unfold timN; omega
  have e1 : timN p n / (p.2.1 - p.1.1) = timLo p n := rfl
  have e2 : -(-timN p n / (p.2.1 - p.1.1)) = timHi p n := rfl
  ((repeat (first | refine ya (by (with_reducible constructor) <;> first | rfl | decide) ?_ | apply yb | refine yc rfl ?_ | ((first | apply yd | apply ye); simp (disch := first | exact List.all_nil | omega | (simp only [go_sem]; done) | (simp only [ln, List.length_map]; omega) | (repeat' first | assumption | exact Ext.refl _ | refine Ext.app ?_ _)) only [go_sem]; with_reducible rfl))))
  refine aops_call_to (bfloorL_c _ _ (by omega) (by omega)) ?_
  ((repeat (first | refine ya (by (with_reducible constructor) <;> first | rfl | decide) ?_ | apply yb | refine yc rfl ?_ | ((first | apply yd | apply ye); simp (disch := first | exact List.all_nil | omega | (simp only [go_sem]; done) | (simp only [ln, List.length_map]; omega) | (repeat' first | assumption | exact Ext.refl _ | refine Ext.app ?_ _)) only [go_sem]; with_reducible rfl))))
  refine aops_call_to (bceilL_c _ _ (by omega) (by omega)) ?_
  ((repeat (first | refine ya (by (with_reducible constructor) <;> first | rfl | decide) ?_ | apply yb | refine yc rfl ?_ | ((first | apply yd | apply ye); simp (disch := first | exact List.all_nil | omega | (simp only [go_sem]; done) | (simp only [ln, List.length_map]; omega) | (repeat' first | assumption | exact Ext.refl _ | refine Ext.app ?_ _)) only [go_sem, e1, e2, fill2i, store_b2 g2]; with_reducible rfl))))
  refine fin_l1 (u := fracV (timLo p n, timHi p n)) (loadN_at (k := 0) (get_set_self g2) (by simp)) ⟨rfl, xG.set (by omega) _⟩
end
end Go.Lq

namespace Go.Lq
open Go
open Go.Proofs

def ratioErrL (num den step : Int) (n : Nat) : Int := firstErr [(if (1 ≤ num ∧ num ≤ 1000) ∧ (1 ≤ den ∧ den ≤ 1000) then 0 else 2), (if step = 0 ∧ (n : Int) = 0 then 0 else 3)]
def curveErrL (l : List (Int × Int)) (step num den : Int) : Int := firstErr [mapErrL l, (if 1 ≤ step ∧ step ≤ 1000000000000 then 0 else 2), (if num = 0 ∧ den = 0 then 0 else 3)]
def rulesErrL (kind deg num den step : Int) (l : List (Int × Int)) : Int :=
  if 0 ≤ kind ∧ kind ≤ 1 then (if degErrL deg = 0 then (if kind = 0 then ratioErrL num den step l.length else curveErrL l step num den) else degErrL deg) else 15
def rulesC (kind deg num den step : Int) (v : Value) : List Value := [.int .i64 kind, .int .i64 deg, .int .i64 num, .int .i64 den, .int .i64 step, v]
def rulesV (kind deg num den step : Int) (v : Value) : Value := .agg ⟨[.int .i64 kind, .int .i64 deg, .int .i64 num, .int .i64 den, .int .i64 step, v]⟩

section
variable {H : AHeap} {kind deg num den step : Int} {l : List (Int × Int)} {v : Value}
theorem box_rules (hv : isAtom v = true) : boxR (rulesV kind deg num den step v) H = some (.pointer (some ⟨H.length, 0, none⟩), H ++ [.cells true 0 (rulesC kind deg num den step v)]) := box_agg (by simp [hv, isAtom_int])
theorem checkRules1_c (n : Int) : ACall Go.Proofs.Tryd.prog 96 [.int .i64 n] H fun w H' => w = .bool (decide (1 ≤ n ∧ n ≤ 1000)) ∧ H' = H := by
  (refine a96 ?_; simp only [n96, List.replicate, List.length_cons, List.length_nil, List.cons_append, List.nil_append]; first | refine q1 ?_ | refine q2 ?_ | refine q6 ?_ | refine q7 ?_ | refine qh rfl ?_ | skip)
  ((repeat (first | refine ya (by (with_reducible constructor) <;> first | rfl | decide) ?_ | apply yb | refine yc rfl ?_ | ((first | apply yd | apply ye); simp (disch := first | exact List.all_nil | omega | (simp only [go_sem]; done) | (simp only [ln, List.length_map]; omega) | (repeat' first | assumption | exact Ext.refl _ | refine Ext.app ?_ _)) only [go_sem]; with_reducible rfl))))
  refine aops_call_to (within_c _ _ _) ?_
  ((repeat (first | refine ya (by (with_reducible constructor) <;> first | rfl | decide) ?_ | apply yb | refine yc rfl ?_ | ((first | apply yd | apply ye); simp (disch := first | exact List.all_nil | omega | (simp only [go_sem]; done) | (simp only [ln, List.length_map]; omega) | (repeat' first | assumption | exact Ext.refl _ | refine Ext.app ?_ _)) only [go_sem]; with_reducible rfl))))
  exact fin_1 ⟨rfl, rfl⟩
theorem load_map {G : AHeap} {id : Nat} (h : G[id]? = some (.cells true 0 (rulesC kind deg num den step v))) : loadNR 1 (.pointer (some ⟨id, 5, none⟩)) G = some (.agg ⟨[v]⟩, G) := loadN_at h (by simp [rulesC])
end
end Go.Lq

namespace Go.Lq
open Go
open Go.Proofs

theorem store_all {H : AHeap} {id e n : Nat} {us vs : List Value} (h : H[id]? = some (.cells true e vs)) (hl : us.length = vs.length) (ha : us.all isAtom = true) (hn : n = us.length) :
    storeR n (.pointer (some ⟨id, 0, none⟩)) (.agg ⟨us⟩) H = some (undef, H.set id (.cells true e us)) := by
  subst hn
  have e1 : (Value.agg ⟨us⟩).cells = ⟨us⟩ := rfl
  have e2 : setCells vs 0 us = us := by
    unfold setCells
    simp [hl]
  simp only [storeR, e1, List.size_toArray, storeAt, h, ha, e2]
  simp [hl]
section
variable {H : AHeap} {kind deg num den step : Int} {l : List (Int × Int)} {v : Value}
theorem copyMap_c (hl : Pairs H l v) (hb : l.length ≤ 1000000) : ACall Go.Proofs.Tryd.prog 52 [.agg ⟨[v]⟩] H fun w H' =>
    w = .agg ⟨[.slice (some ⟨H.length, 0, none⟩) l.length l.length]⟩ ∧ H' = H ++ [.cells true 2 (flatP l)] := by
  refine ACall.tidyE (f := fun s => .agg ⟨[s]⟩) (n := l.length) (sz := 2) wraps_agg1 (closed_flatP l) ?_
  (refine a52 ?_; simp only [n52, List.replicate, List.length_cons, List.length_nil, List.cons_append, List.nil_append]; first | refine q1 ?_ | refine q2 ?_ | refine q6 ?_ | refine q7 ?_ | refine qh rfl ?_ | skip)
  (repeat (first | refine ya (by (with_reducible constructor) <;> first | rfl | decide) ?_ | (apply yd; simp (disch := first | exact List.all_nil | omega | (simp only [go_sem]; done) | (simp only [ln, List.length_map]; omega) | (repeat' first | assumption | exact Ext.refl _ | refine Ext.app ?_ _)) only [go_sem, hl.box1]; with_reducible rfl)))
  (simp only [List.length_append, List.length_cons, List.length_nil, Nat.zero_add, Nat.add_assoc, Nat.reduceAdd])
  obtain ⟨G, hG⟩ : ∃ G, G = H ++ [AObj.cells true 0 [v]] ++ [AObj.cells true 0 [.slice none 0 0]] := ⟨_, rfl⟩
  have g0 : G[H.length]? = some (.cells true 0 [v]) := by rw [hG]; exact at_app at_new
  have g1 : G[H.length + 1]? = some (.cells true 0 [.slice none 0 0]) := by rw [hG]; simp
  have xG : Ext H G := by rw [hG]; exact ((Ext.refl H).app _).app _
  have lG : G.length = H.length + 2 := by rw [hG]; simp
  rw [← hG]
  clear hG
  obtain ⟨s, H2, ha, hx2, id, rfl, hid, hc2⟩ := append_copy (bytes := 16) (hl.ext xG) (isAtom_flatP l) (roomOk_of (by omega) (by omega))
  have h1 := hx2.cell g1
  have hms : mkSliceL 2 0 (some []) G = some (.slice (some ⟨G.length, 0, none⟩) 0 0, G ++ [.cells true 2 []]) := rfl
  have k0 := at_app (N := [AObj.cells true 2 []]) g0
  have hf : fillA [.slice none 0 0] [(0, 1, .slice (some ⟨id, 0, none⟩) l.length l.length)] = some [.slice (some ⟨id, 0, none⟩) l.length l.length] := rfl
  have hst := store_all (n := 1) (us := [.slice (some ⟨id, 0, none⟩) l.length l.length]) h1 rfl rfl rfl
  ((repeat (first | refine ya (by (with_reducible constructor) <;> first | rfl | decide) ?_ | apply yb | refine yc rfl ?_ | ((first | apply yd | apply ye); simp (disch := first | exact List.all_nil | omega | (simp only [go_sem]; done) | (simp only [ln, List.length_map]; omega) | (repeat' first | assumption | exact Ext.refl _ | refine Ext.app ?_ _)) only [go_sem, hms, load_at k0, ha, hf, hst]; with_reducible rfl))))
  refine fin_l1 (u := .agg ⟨[.slice (some ⟨id, 0, none⟩) l.length l.length]⟩) (loadN_at (k := 0) (get_set_self h1) (by simp)) ?_
  refine ⟨_, id, rfl, (xG.trans hx2).set (by omega) _, rfl, by omega, ?_⟩
  rw [List.getElem?_set_ne (by omega)]; exact hc2
end
end Go.Lq

namespace Go.Lq
open Go
open Go.Proofs

theorem ratio_E {num den step : Int} {n : Nat} : firstErr [(if decide ((1 ≤ num ∧ num ≤ 1000) ∧ (1 ≤ den ∧ den ≤ 1000)) = true then 0 else 2), (if decide (step = 0 ∧ (n : Int) = 0) = true then 0 else 3)] = ratioErrL num den step n := by
  unfold ratioErrL
  simp only [decide_eq_true_eq]
theorem curve_E {l : List (Int × Int)} {num den step : Int} : firstErr [mapErrL l, (if decide (1 ≤ step ∧ step ≤ 1000000000000) = true then 0 else 2), (if decide (num = 0 ∧ den = 0) = true then 0 else 3)] = curveErrL l step num den := by
  unfold curveErrL
  simp only [decide_eq_true_eq]
section
variable {H : AHeap} {kind deg num den step : Int} {l : List (Int × Int)} {v : Value}
set_option maxHeartbeats 4000000 in
theorem checkRules_c (hl : Pairs H l v) (hb : l.length ≤ 1000000000) : ACall Go.Proofs.Tryd.prog 33 [rulesV kind deg num den step v] H fun w H' => w = .int .i64 (rulesErrL kind deg num den step l) ∧ H' = H := by
  refine ACall.drop (.int _ _) ?_
  (refine a33 ?_; simp only [n33, List.replicate, List.length_cons, List.length_nil, List.cons_append, List.nil_append]; first | refine q1 ?_ | refine q2 ?_ | refine q6 ?_ | refine q7 ?_ | refine qh rfl ?_ | skip)
  have g0 : (H ++ [AObj.cells true 0 (rulesC kind deg num den step v)])[H.length]? = some (.cells true 0 (rulesC kind deg num den step v)) := at_new
  have xG : Ext H (H ++ [AObj.cells true 0 (rulesC kind deg num den step v)]) := (Ext.refl H).app _
  (repeat (first | refine ya (by (with_reducible constructor) <;> first | rfl | decide) ?_ | (apply yd; simp (disch := first | exact List.all_nil | omega | (simp only [go_sem]; done) | (simp only [ln, List.length_map]; omega) | (repeat' first | assumption | exact Ext.refl _ | refine Ext.app ?_ _)) only [go_sem, box_rules hl.atom]; with_reducible rfl)))
  generalize (H ++ [AObj.cells true 0 (rulesC kind deg num den step v)] : AHeap) = G at g0 xG
  have hl1 := hl.ext xG
  ((repeat (first | refine ya (by (with_reducible constructor) <;> first | rfl | decide) ?_ | apply yb | refine yc rfl ?_ | ((first | apply yd | apply ye); simp (disch := first | exact List.all_nil | omega | (simp only [go_sem]; done) | (simp only [ln, List.length_map]; omega) | (repeat' first | assumption | exact Ext.refl _ | refine Ext.app ?_ _)) only [go_sem, load_at g0, rulesC]; with_reducible rfl))))
  refine adraw_call (N := []) (firstD (within_c _ _ _)) ?_
  rw [List.append_nil]
  ((repeat (first | refine ya (by (with_reducible constructor) <;> first | rfl | decide) ?_ | apply yb | refine yc rfl ?_ | ((first | apply yd | apply ye); simp (disch := first | exact List.all_nil | omega | (simp only [go_sem]; done) | (simp only [ln, List.length_map]; omega) | (repeat' first | assumption | exact Ext.refl _ | refine Ext.app ?_ _)) only [go_sem]; with_reducible rfl))))
  refine adraw_call (N := []) (firstD (unless_c _ _)) ?_
  rw [List.append_nil]
  ((repeat (first | refine ya (by (with_reducible constructor) <;> first | rfl | decide) ?_ | apply yb | refine yc rfl ?_ | ((first | apply yd | apply ye); simp (disch := first | exact List.all_nil | omega | (simp only [go_sem]; done) | (simp only [ln, List.length_map]; omega) | (repeat' first | assumption | exact Ext.refl _ | refine Ext.app ?_ _)) only [go_sem, load_at g0, rulesC]; with_reducible rfl))))
  refine adraw_call (N := []) (firstD (degreeErr_c _)) ?_
  rw [List.append_nil]
  ((repeat (first | refine ya (by (with_reducible constructor) <;> first | rfl | decide) ?_ | apply yb | refine yc rfl ?_ | ((first | apply yd | apply ye); simp (disch := first | exact List.all_nil | omega | (simp only [go_sem]; done) | (simp only [ln, List.length_map]; omega) | (repeat' first | assumption | exact Ext.refl _ | refine Ext.app ?_ _)) only [go_sem]; with_reducible rfl))))
  refine adraw_call (N := []) (firstD (first_c (l := [_, _]) (Ints.last (l := [_, _]) 2) (by simp))) ?_
  rw [List.append_nil]
  by_cases hk : 0 ≤ kind ∧ kind ≤ 1
  rotate_left 1
  · have ev : rulesErrL kind deg num den step l = 15 := by unfold rulesErrL; rw [if_neg hk]
    rw [ev]
    ((repeat (first | refine ya (by (with_reducible constructor) <;> first | rfl | decide) ?_ | apply yb | refine yc rfl ?_ | ((first | apply yd | apply ye); simp (disch := first | exact List.all_nil | omega | (simp only [go_sem]; done) | (simp only [ln, List.length_map]; omega) | (repeat' first | assumption | exact Ext.refl _ | refine Ext.app ?_ _)) only [go_sem, dec_f hk, ite_ft, firstErr_e (show (15 : Int) ≠ 0 by decide)]; with_reducible rfl))))
    refine cond_t rfl ?_
    ((repeat (first | refine ya (by (with_reducible constructor) <;> first | rfl | decide) ?_ | apply yb | refine yc rfl ?_ | ((first | apply yd | apply ye); simp (disch := first | exact List.all_nil | omega | (simp only [go_sem]; done) | (simp only [ln, List.length_map]; omega) | (repeat' first | assumption | exact Ext.refl _ | refine Ext.app ?_ _)) only [go_sem]; with_reducible rfl))))
    exact fin_1 ⟨rfl, xG.app _⟩
  by_cases hd : degErrL deg = 0
  rotate_left 1
  · have ev : rulesErrL kind deg num den step l = degErrL deg := by unfold rulesErrL; rw [if_pos hk, if_neg hd]
    rw [ev]
    ((repeat (first | refine ya (by (with_reducible constructor) <;> first | rfl | decide) ?_ | apply yb | refine yc rfl ?_ | ((first | apply yd | apply ye); simp (disch := first | exact List.all_nil | omega | (simp only [go_sem]; done) | (simp only [ln, List.length_map]; omega) | (repeat' first | assumption | exact Ext.refl _ | refine Ext.app ?_ _)) only [go_sem, dec_t hk, ite_tt, firstErr_z, firstErr_e hd, dec_t (show degErrL deg ≠ 0 from hd)]; with_reducible rfl))))
    refine cond_t rfl ?_
    ((repeat (first | refine ya (by (with_reducible constructor) <;> first | rfl | decide) ?_ | apply yb | refine yc rfl ?_ | ((first | apply yd | apply ye); simp (disch := first | exact List.all_nil | omega | (simp only [go_sem]; done) | (simp only [ln, List.length_map]; omega) | (repeat' first | assumption | exact Ext.refl _ | refine Ext.app ?_ _)) only [go_sem]; with_reducible rfl))))
    exact fin_1 ⟨rfl, xG.app _⟩
  ((repeat (first | refine ya (by (with_reducible constructor) <;> first | rfl | decide) ?_ | apply yb | refine yc rfl ?_ | ((first | apply yd | apply ye); simp (disch := first | exact List.all_nil | omega | (simp only [go_sem]; done) | (simp only [ln, List.length_map]; omega) | (repeat' first | assumption | exact Ext.refl _ | refine Ext.app ?_ _)) only [go_sem, dec_t hk, ite_tt, firstErr_z, hd, firstErr_nil]; with_reducible rfl))))
  refine cond_f rfl ?_
  have x2 : Ext G (G ++ [AObj.cells true 1 [.int .i64 0, .int .i64 0]]) := (Ext.refl G).app _
  generalize (G ++ [AObj.cells true 1 [.int .i64 0, .int .i64 0]] : AHeap) = G2 at x2
  have xH2 := xG.trans x2
  have k0 := x2.cell g0
  have hl2 := hl.ext xH2
  by_cases h0 : kind = 0
  · have ev : rulesErrL kind deg num den step l = ratioErrL num den step l.length := by unfold rulesErrL; rw [if_pos hk, if_pos hd, if_pos h0]
    rw [ev, ← ratio_E]
    ((repeat (first | refine ya (by (with_reducible constructor) <;> first | rfl | decide) ?_ | apply yb | refine yc rfl ?_ | ((first | apply yd | apply ye); simp (disch := first | exact List.all_nil | omega | (simp only [go_sem]; done) | (simp only [ln, List.length_map]; omega) | (repeat' first | assumption | exact Ext.refl _ | refine Ext.app ?_ _)) only [go_sem, load_at k0, rulesC, dec_t h0]; with_reducible rfl))))
    refine cond_t rfl ?_
    ((repeat (first | refine ya (by (with_reducible constructor) <;> first | rfl | decide) ?_ | apply yb | refine yc rfl ?_ | ((first | apply yd | apply ye); simp (disch := first | exact List.all_nil | omega | (simp only [go_sem]; done) | (simp only [ln, List.length_map]; omega) | (repeat' first | assumption | exact Ext.refl _ | refine Ext.app ?_ _)) only [go_sem, load_at k0, rulesC]; with_reducible rfl))))
    refine adraw_call (N := []) (firstD (checkRules1_c _)) ?_
    rw [List.append_nil]
    by_cases hn : 1 ≤ num ∧ num ≤ 1000
    · ((repeat (first | refine ya (by (with_reducible constructor) <;> first | rfl | decide) ?_ | apply yb | refine yc rfl ?_ | ((first | apply yd | apply ye); simp (disch := first | exact List.all_nil | omega | (simp only [go_sem]; done) | (simp only [ln, List.length_map]; omega) | (repeat' first | assumption | exact Ext.refl _ | refine Ext.app ?_ _)) only [go_sem, dec_t hn, load_at k0, rulesC]; with_reducible rfl))))
      refine adraw_call (N := []) (firstD (checkRules1_c _)) ?_
      rw [List.append_nil]
      ((repeat (first | refine ya (by (with_reducible constructor) <;> first | rfl | decide) ?_ | apply yb | refine yc rfl ?_ | ((first | apply yd | apply ye); simp (disch := first | exact List.all_nil | omega | (simp only [go_sem]; done) | (simp only [ln, List.length_map]; omega) | (repeat' first | assumption | exact Ext.refl _ | refine Ext.app ?_ _)) only [go_sem, dec_t hn]; with_reducible rfl))))
      refine adraw_call (N := []) (firstD (unless_c _ _)) ?_
      rw [List.append_nil]
      by_cases hs : step = 0
      · ((repeat (first | refine ya (by (with_reducible constructor) <;> first | rfl | decide) ?_ | apply yb | refine yc rfl ?_ | ((first | apply yd | apply ye); simp (disch := first | exact List.all_nil | omega | (simp only [go_sem]; done) | (simp only [ln, List.length_map]; omega) | (repeat' first | assumption | exact Ext.refl _ | refine Ext.app ?_ _)) only [go_sem, hl2.len, hl2.idx, hl2.load, load_at k0, rulesC, dec_t hs]; with_reducible rfl))))
        refine adraw_call (N := []) (firstD (unless_c _ _)) ?_
        rw [List.append_nil]
        ((repeat (first | refine ya (by (with_reducible constructor) <;> first | rfl | decide) ?_ | apply yb | refine yc rfl ?_ | ((first | apply yd | apply ye); simp (disch := first | exact List.all_nil | omega | (simp only [go_sem]; done) | (simp only [ln, List.length_map]; omega) | (repeat' first | assumption | exact Ext.refl _ | refine Ext.app ?_ _)) only [go_sem]; with_reducible rfl))))
        refine adraw_call (N := []) (firstD (first_c (l := [_, _]) (Ints.last (l := [_, _]) 2) (by simp))) ?_
        rw [List.append_nil]
        ((repeat (first | refine ya (by (with_reducible constructor) <;> first | rfl | decide) ?_ | apply yb | refine yc rfl ?_ | ((first | apply yd | apply ye); simp (disch := first | exact List.all_nil | omega | (simp only [go_sem]; done) | (simp only [ln, List.length_map]; omega) | (repeat' first | assumption | exact Ext.refl _ | refine Ext.app ?_ _)) only [go_sem]; with_reducible rfl))))
        exact fin_1 ⟨by simp [hn, hs], xH2.app _⟩
      · ((repeat (first | refine ya (by (with_reducible constructor) <;> first | rfl | decide) ?_ | apply yb | refine yc rfl ?_ | ((first | apply yd | apply ye); simp (disch := first | exact List.all_nil | omega | (simp only [go_sem]; done) | (simp only [ln, List.length_map]; omega) | (repeat' first | assumption | exact Ext.refl _ | refine Ext.app ?_ _)) only [go_sem, hl2.len, hl2.idx, hl2.load, load_at k0, rulesC, dec_f hs]; with_reducible rfl))))
        refine adraw_call (N := []) (firstD (unless_c _ _)) ?_
        rw [List.append_nil]
        ((repeat (first | refine ya (by (with_reducible constructor) <;> first | rfl | decide) ?_ | apply yb | refine yc rfl ?_ | ((first | apply yd | apply ye); simp (disch := first | exact List.all_nil | omega | (simp only [go_sem]; done) | (simp only [ln, List.length_map]; omega) | (repeat' first | assumption | exact Ext.refl _ | refine Ext.app ?_ _)) only [go_sem]; with_reducible rfl))))
        refine adraw_call (N := []) (firstD (first_c (l := [_, _]) (Ints.last (l := [_, _]) 2) (by simp))) ?_
        rw [List.append_nil]
        ((repeat (first | refine ya (by (with_reducible constructor) <;> first | rfl | decide) ?_ | apply yb | refine yc rfl ?_ | ((first | apply yd | apply ye); simp (disch := first | exact List.all_nil | omega | (simp only [go_sem]; done) | (simp only [ln, List.length_map]; omega) | (repeat' first | assumption | exact Ext.refl _ | refine Ext.app ?_ _)) only [go_sem]; with_reducible rfl))))
        exact fin_1 ⟨by simp [hn, hs], xH2.app _⟩
    · ((repeat (first | refine ya (by (with_reducible constructor) <;> first | rfl | decide) ?_ | apply yb | refine yc rfl ?_ | ((first | apply yd | apply ye); simp (disch := first | exact List.all_nil | omega | (simp only [go_sem]; done) | (simp only [ln, List.length_map]; omega) | (repeat' first | assumption | exact Ext.refl _ | refine Ext.app ?_ _)) only [go_sem, dec_f hn]; with_reducible rfl))))
      refine adraw_call (N := []) (firstD (unless_c _ _)) ?_
      rw [List.append_nil]
      by_cases hs : step = 0
      · ((repeat (first | refine ya (by (with_reducible constructor) <;> first | rfl | decide) ?_ | apply yb | refine yc rfl ?_ | ((first | apply yd | apply ye); simp (disch := first | exact List.all_nil | omega | (simp only [go_sem]; done) | (simp only [ln, List.length_map]; omega) | (repeat' first | assumption | exact Ext.refl _ | refine Ext.app ?_ _)) only [go_sem, hl2.len, hl2.idx, hl2.load, load_at k0, rulesC, dec_t hs]; with_reducible rfl))))
        refine adraw_call (N := []) (firstD (unless_c _ _)) ?_
        rw [List.append_nil]
        ((repeat (first | refine ya (by (with_reducible constructor) <;> first | rfl | decide) ?_ | apply yb | refine yc rfl ?_ | ((first | apply yd | apply ye); simp (disch := first | exact List.all_nil | omega | (simp only [go_sem]; done) | (simp only [ln, List.length_map]; omega) | (repeat' first | assumption | exact Ext.refl _ | refine Ext.app ?_ _)) only [go_sem]; with_reducible rfl))))
        refine adraw_call (N := []) (firstD (first_c (l := [_, _]) (Ints.last (l := [_, _]) 2) (by simp))) ?_
        rw [List.append_nil]
        ((repeat (first | refine ya (by (with_reducible constructor) <;> first | rfl | decide) ?_ | apply yb | refine yc rfl ?_ | ((first | apply yd | apply ye); simp (disch := first | exact List.all_nil | omega | (simp only [go_sem]; done) | (simp only [ln, List.length_map]; omega) | (repeat' first | assumption | exact Ext.refl _ | refine Ext.app ?_ _)) only [go_sem]; with_reducible rfl))))
        exact fin_1 ⟨by simp [hn, hs, firstErr], xH2.app _⟩
      · ((repeat (first | refine ya (by (with_reducible constructor) <;> first | rfl | decide) ?_ | apply yb | refine yc rfl ?_ | ((first | apply yd | apply ye); simp (disch := first | exact List.all_nil | omega | (simp only [go_sem]; done) | (simp only [ln, List.length_map]; omega) | (repeat' first | assumption | exact Ext.refl _ | refine Ext.app ?_ _)) only [go_sem, hl2.len, hl2.idx, hl2.load, load_at k0, rulesC, dec_f hs]; with_reducible rfl))))
        refine adraw_call (N := []) (firstD (unless_c _ _)) ?_
        rw [List.append_nil]
        ((repeat (first | refine ya (by (with_reducible constructor) <;> first | rfl | decide) ?_ | apply yb | refine yc rfl ?_ | ((first | apply yd | apply ye); simp (disch := first | exact List.all_nil | omega | (simp only [go_sem]; done) | (simp only [ln, List.length_map]; omega) | (repeat' first | assumption | exact Ext.refl _ | refine Ext.app ?_ _)) only [go_sem]; with_reducible rfl))))
        refine adraw_call (N := []) (firstD (first_c (l := [_, _]) (Ints.last (l := [_, _]) 2) (by simp))) ?_
        rw [List.append_nil]
        ((repeat (first | refine ya (by (with_reducible constructor) <;> first | rfl | decide) ?_ | apply yb | refine yc rfl ?_ | ((first | apply yd | apply ye); simp (disch := first | exact List.all_nil | omega | (simp only [go_sem]; done) | (simp only [ln, List.length_map]; omega) | (repeat' first | assumption | exact Ext.refl _ | refine Ext.app ?_ _)) only [go_sem]; with_reducible rfl))))
        exact fin_1 ⟨by simp [hn, hs, firstErr], xH2.app _⟩
  have ev : rulesErrL kind deg num den step l = curveErrL l step num den := by unfold rulesErrL; rw [if_pos hk, if_pos hd, if_neg h0]
  rw [ev, ← curve_E]
  ((repeat (first | refine ya (by (with_reducible constructor) <;> first | rfl | decide) ?_ | apply yb | refine yc rfl ?_ | ((first | apply yd | apply ye); simp (disch := first | exact List.all_nil | omega | (simp only [go_sem]; done) | (simp only [ln, List.length_map]; omega) | (repeat' first | assumption | exact Ext.refl _ | refine Ext.app ?_ _)) only [go_sem, load_at k0, rulesC, dec_f h0]; with_reducible rfl))))
  refine cond_f rfl ?_
  ((repeat (first | refine ya (by (with_reducible constructor) <;> first | rfl | decide) ?_ | apply yb | refine yc rfl ?_ | ((first | apply yd | apply ye); simp (disch := first | exact List.all_nil | omega | (simp only [go_sem]; done) | (simp only [ln, List.length_map]; omega) | (repeat' first | assumption | exact Ext.refl _ | refine Ext.app ?_ _)) only [go_sem, load_map k0]; with_reducible rfl))))
  refine aops_call_to (spCheckMap_c hl2 hb) ?_
  have em : (ckMap l).2 = mapErrL l := rfl
  rw [em]
  ((repeat (first | refine ya (by (with_reducible constructor) <;> first | rfl | decide) ?_ | apply yb | refine yc rfl ?_ | ((first | apply yd | apply ye); simp (disch := first | exact List.all_nil | omega | (simp only [go_sem]; done) | (simp only [ln, List.length_map]; omega) | (repeat' first | assumption | exact Ext.refl _ | refine Ext.app ?_ _)) only [go_sem, load_at k0, rulesC]; with_reducible rfl))))
  refine adraw_call (N := []) (firstD (within_c _ _ _)) ?_
  rw [List.append_nil]
  ((repeat (first | refine ya (by (with_reducible constructor) <;> first | rfl | decide) ?_ | apply yb | refine yc rfl ?_ | ((first | apply yd | apply ye); simp (disch := first | exact List.all_nil | omega | (simp only [go_sem]; done) | (simp only [ln, List.length_map]; omega) | (repeat' first | assumption | exact Ext.refl _ | refine Ext.app ?_ _)) only [go_sem]; with_reducible rfl))))
  refine adraw_call (N := []) (firstD (unless_c _ _)) ?_
  rw [List.append_nil]
  by_cases hs : num = 0
  · ((repeat (first | refine ya (by (with_reducible constructor) <;> first | rfl | decide) ?_ | apply yb | refine yc rfl ?_ | ((first | apply yd | apply ye); simp (disch := first | exact List.all_nil | omega | (simp only [go_sem]; done) | (simp only [ln, List.length_map]; omega) | (repeat' first | assumption | exact Ext.refl _ | refine Ext.app ?_ _)) only [go_sem, load_at k0, rulesC, dec_t hs]; with_reducible rfl))))
    refine adraw_call (N := []) (firstD (unless_c _ _)) ?_
    rw [List.append_nil]
    ((repeat (first | refine ya (by (with_reducible constructor) <;> first | rfl | decide) ?_ | apply yb | refine yc rfl ?_ | ((first | apply yd | apply ye); simp (disch := first | exact List.all_nil | omega | (simp only [go_sem]; done) | (simp only [ln, List.length_map]; omega) | (repeat' first | assumption | exact Ext.refl _ | refine Ext.app ?_ _)) only [go_sem]; with_reducible rfl))))
    refine adraw_call (N := []) (firstD (first_c (l := [_, _, _]) (Ints.last (l := [_, _, _]) 3) (by simp))) ?_
    rw [List.append_nil]
    ((repeat (first | refine ya (by (with_reducible constructor) <;> first | rfl | decide) ?_ | apply yb | refine yc rfl ?_ | ((first | apply yd | apply ye); simp (disch := first | exact List.all_nil | omega | (simp only [go_sem]; done) | (simp only [ln, List.length_map]; omega) | (repeat' first | assumption | exact Ext.refl _ | refine Ext.app ?_ _)) only [go_sem]; with_reducible rfl))))
    exact fin_1 ⟨by simp [hs], xH2.app _⟩
  · ((repeat (first | refine ya (by (with_reducible constructor) <;> first | rfl | decide) ?_ | apply yb | refine yc rfl ?_ | ((first | apply yd | apply ye); simp (disch := first | exact List.all_nil | omega | (simp only [go_sem]; done) | (simp only [ln, List.length_map]; omega) | (repeat' first | assumption | exact Ext.refl _ | refine Ext.app ?_ _)) only [go_sem, load_at k0, rulesC, dec_f hs]; with_reducible rfl))))
    refine adraw_call (N := []) (firstD (unless_c _ _)) ?_
    rw [List.append_nil]
    ((repeat (first | refine ya (by (with_reducible constructor) <;> first | rfl | decide) ?_ | apply yb | refine yc rfl ?_ | ((first | apply yd | apply ye); simp (disch := first | exact List.all_nil | omega | (simp only [go_sem]; done) | (simp only [ln, List.length_map]; omega) | (repeat' first | assumption | exact Ext.refl _ | refine Ext.app ?_ _)) only [go_sem]; with_reducible rfl))))
    refine adraw_call (N := []) (firstD (first_c (l := [_, _, _]) (Ints.last (l := [_, _, _]) 3) (by simp))) ?_
    rw [List.append_nil]
    ((repeat (first | refine ya (by (with_reducible constructor) <;> first | rfl | decide) ?_ | apply yb | refine yc rfl ?_ | ((first | apply yd | apply ye); simp (disch := first | exact List.all_nil | omega | (simp only [go_sem]; done) | (simp only [ln, List.length_map]; omega) | (repeat' first | assumption | exact Ext.refl _ | refine Ext.app ?_ _)) only [go_sem]; with_reducible rfl))))
    exact fin_1 ⟨by simp [hs], xH2.app _⟩
end
end Go.Lq

namespace Go.Lq
open Go
open Go.Proofs

def GenX (P : Program) (f : FuncId) (xs ys : List Value) (Fact : AHeap → Prop) (items : List (List Value)) (inf : Bool) : Prop :=
  ∀ (l : Nat) (I : List (List Value) → AHeap → Prop) (S : AHeap → Prop) (H : AHeap), (∀ rest H, I rest H → Fact H) → (∀ rest H N, I rest H → I rest (H ++ N)) → (inf = true → ∀ H, ¬ I [] H) →
    (∀ a rest H, I (a :: rest) H → ARound P l a H fun v H' => (v = .bool true ∧ I rest H') ∨ (v = .bool false ∧ S H')) → I items H → ACall P f (xs ++ [.func (.yield l) #[] #[]] ++ ys) H fun _ H' => I [] H' ∨ S H'
section
variable {P : Program} {ar : Option Nat} {g : Operand} {f : FuncId} {xs ys : List Value} {ps : List Nat} {assign body : RCode} {Q : AExit → Env → AHeap → Prop} {env : Env} {H : AHeap} {Fact : AHeap → Prop} {items : List (List Value)} {inf : Bool}
theorem awp_rangeX (hm : P.follows .mixedOrders = true) (hg : evalA env g = .func (.func f) ⟨xs⟩ ⟨ys⟩) (har : ∀ l, ar = some l → ∃ r, H[l]? = some (.loop r)) (hgen : GenX P f xs ys Fact items inf)
    (J : List (List Value) → AHeap → Prop) (S : AExit → AHeap → Prop) (hJ : ∀ rest H' c, J rest H' → J rest (H'.set H.length c)) (hS : ∀ x H' c, S x H' → S x (H'.set H.length c)) (hF : ∀ rest H', J rest H' → Fact H')
    (happ : ∀ rest H' N, J rest H' → J rest (H' ++ N)) (hinf : inf = true → ∀ H', ¬ J [] H')
    (h0 : ∀ N, J items (H ++ N))
    (hbody : ∀ a rest H1, J (a :: rest) H1 → H.length < H1.length → a.length = ps.length ∧ Round P H.length assign body (assignParams env ps a) H1 (J rest) S)
    (hend : ∀ H', J [] H' → Q .normal env H') (hstop : ∀ x H', x ≠ .normal → S x H' → Q x env H') : AWP P ar (.rangeFunc g ps assign body) Q env H := by
  refine awp_rangeFunc hg har ?_
  show ACall P f _ (H ++ [.loop (recOf env ps assign body)]) _
  refine (hgen H.length (fun rest H' => J rest H' ∧ H'[H.length]? = some (.loop (recOf env ps assign body)))
    (fun H' => ∃ x, x ≠ .normal ∧ S x H' ∧ H'[H.length]? = some (.loop { recOf env ps assign body with state := .done, pending := some x })) _ (fun rest H' h => hF rest H' h.1)
    (fun rest H' N h => ⟨happ _ _ N h.1, at_app h.2⟩) (fun hi H' h => hinf hi H' h.1) (fun a rest H1 ⟨h1, h2⟩ => ?_) ⟨h0 _, by simp⟩).mono fun _ H' h => ?_
  · refine round_of hm (hbody a rest H1 h1 (List.getElem?_eq_some_iff.1 h2).1).1 (hbody a rest H1 h1 (List.getElem?_eq_some_iff.1 h2).1).2 h2 rfl rfl (fun H' c h _ => hJ _ _ _ h) (fun H' h3 h4 => .inl ⟨rfl, h4, h3⟩) fun H' x hn h3 ⟨H3, h4, e⟩ => .inr ⟨rfl, x, hn, ?_, h3⟩
    rw [e]; exact hS _ _ _ h4
  · rcases h with ⟨h1, h2⟩ | ⟨x, hn, h1, h2⟩
    · exact rangeEnd_n h2 rfl rfl fun c => hend _ (hJ _ _ _ h1)
    · exact rangeEnd_x hn h2 fun c => hstop x _ hn (hS _ _ _ h1)
end

def streamI (f : Nat → Int) (k : Nat) : Nat → List (List Value)
  | 0 => []
  | n + 1 => [.int .i64 (f k)] :: streamI f (k + 1) n
def outN (f : Nat → Int) (B : Int) (k : Nat) : Nat → Nat × Int
  | 0 => (k, 0)
  | n + 1 => if B < f k then (k, 0) else if k = 2000 then (0, 8) else outN f B (k + 1) n
theorem outN_succ {f : Nat → Int} {B : Int} {k n : Nat} : outN f B k (n + 1) = if B < f k then (k, 0) else if k = 2000 then (0, 8) else outN f B (k + 1) n := rfl
def ratioF (num den : Int) (k : Nat) : Int := 64 * k * num / den

section
variable {H : AHeap} {kind deg num den step : Int} {v : Value}
set_option maxHeartbeats 4000000 in
theorem positions1_c {idr : Nat} (hn : 1 ≤ num ∧ num ≤ 1000) (hd : 1 ≤ den ∧ den ≤ 1000) :
    GenX Go.Proofs.Tryd.prog 146 [] [.pointer (some ⟨idr, 0, none⟩)] (fun H => H[idr]? = some (.cells true 0 (rulesC kind deg num den step v))) (streamI (ratioF num den) 0 2001) true := by
  intro lp I S H hF happ hinf hround hI0
  show ACall _ _ [.func (.yield lp) #[] #[], .pointer (some ⟨idr, 0, none⟩)] _ _
  (refine a146 ?_; simp only [n146, List.replicate, List.length_cons, List.length_nil, List.cons_append, List.nil_append]; first | refine q1 ?_ | refine q2 ?_ | refine q6 ?_ | refine q7 ?_ | refine qh rfl ?_ | skip)
  ((repeat (first | refine ya (by (with_reducible constructor) <;> first | rfl | decide) ?_ | apply yb | refine yc rfl ?_ | ((first | apply yd | apply ye); simp (disch := first | exact List.all_nil | omega | (simp only [go_sem]; done) | (simp only [ln, List.length_map]; omega) | (repeat' first | assumption | exact Ext.refl _ | refine Ext.app ?_ _)) only [go_sem]; with_reducible rfl))))
  refine awp_loop_n [true, true, false, true, false, false, false, false, false, false, false, false, false, false, false, false] 2001 (fun i e H' => e = [.func (.yield lp) #[] #[], .pointer (some ⟨idr, 0, none⟩), junk, .int .i64 i, junk, junk, junk, junk, junk, junk, junk, junk, junk, junk, junk, junk] ∧ I (streamI (ratioF num den) i (2001 - i)) H') ?_ ?_
  · exact ⟨by simp [forget], hI0⟩
  rintro i e H1 hi ⟨rfl, hI⟩
  have hi' : i < 2001 := by
    refine Decidable.byContradiction fun h => ?_
    obtain rfl : i = 2001 := by omega
    exact hinf rfl _ hI
  have g0 := hF _ _ hI
  obtain ⟨k, hk⟩ : ∃ k, k = 2001 - (i + 1) := ⟨_, rfl⟩
  rw [show 2001 - i = k + 1 by omega] at hI
  have m1 : 0 ≤ 64 * (i : Int) * num := Int.mul_nonneg (by omega) (by omega)
  have m2 : 64 * (i : Int) * num ≤ 64 * (i : Int) * 1000 := Int.mul_le_mul_of_nonneg_left (by omega) (by omega)
  have e1 : (64 * (i : Int) * num).tdiv den = ratioF num den i := Int.tdiv_eq_ediv_of_nonneg m1
  have b1 : ratioF num den i ≤ 128000000 := Int.le_trans (Int.ediv_le_self _ m1) (by omega)
  have b0 : 0 ≤ ratioF num den i := Int.ediv_nonneg m1 (by omega)
  ((repeat (first | refine ya (by (with_reducible constructor) <;> first | rfl | decide) ?_ | apply yb | refine yc rfl ?_ | ((first | apply yd | apply ye); simp (disch := first | exact List.all_nil | omega | (simp only [go_sem]; done) | (simp only [ln, List.length_map]; omega) | (repeat' first | assumption | exact Ext.refl _ | refine Ext.app ?_ _)) only [go_sem, load_at g0, rulesC, a_quo (show den ≠ 0 by omega), e1]; with_reducible rfl))))
  refine aops_call ((hround _ _ _ hI).mono fun v1 H3 h => ?_)
  rcases h with ⟨rfl, hI3⟩ | ⟨rfl, hS⟩
  · ((repeat (first | refine ya (by (with_reducible constructor) <;> first | rfl | decide) ?_ | apply yb | refine yc rfl ?_ | ((first | apply yd | apply ye); simp (disch := first | exact List.all_nil | omega | (simp only [go_sem]; done) | (simp only [ln, List.length_map]; omega) | (repeat' first | assumption | exact Ext.refl _ | refine Ext.app ?_ _)) only [go_sem]; with_reducible rfl))))
    refine cond_t rfl ?_
    ((repeat (first | refine ya (by (with_reducible constructor) <;> first | rfl | decide) ?_ | apply yb | refine yc rfl ?_ | ((first | apply yd | apply ye); simp (disch := first | exact List.all_nil | omega | (simp only [go_sem]; done) | (simp only [ln, List.length_map]; omega) | (repeat' first | assumption | exact Ext.refl _ | refine Ext.app ?_ _)) only [go_sem]; with_reducible rfl))))
    exact ⟨by omega, by simp [forget], by rw [← hk]; exact hI3⟩
  · ((repeat (first | refine ya (by (with_reducible constructor) <;> first | rfl | decide) ?_ | apply yb | refine yc rfl ?_ | ((first | apply yd | apply ye); simp (disch := first | exact List.all_nil | omega | (simp only [go_sem]; done) | (simp only [ln, List.length_map]; omega) | (repeat' first | assumption | exact Ext.refl _ | refine Ext.app ?_ _)) only [go_sem]; with_reducible rfl))))
    refine cond_f rfl ?_
    ((repeat (first | refine ya (by (with_reducible constructor) <;> first | rfl | decide) ?_ | apply yb | refine yc rfl ?_ | ((first | apply yd | apply ye); simp (disch := first | exact List.all_nil | omega | (simp only [go_sem]; done) | (simp only [ln, List.length_map]; omega) | (repeat' first | assumption | exact Ext.refl _ | refine Ext.app ?_ _)) only [go_sem]; with_reducible rfl))))
    exact ⟨.inl rfl, undef, rfl, .inr hS⟩
end
end Go.Lq

namespace Go.Lq
open Go
open Go.Proofs

def t0L (l : List (Int × Int)) : Int := (l.getD 0 (0, 0)).2
def tEL (l : List (Int × Int)) : Int := (l.getD (l.length - 1) (0, 0)).2
def curveF (l : List (Int × Int)) (step : Int) (k : Nat) : Int := (posAtL l (t0L l + k * step)).1.1
def curveN (l : List (Int × Int)) (step : Int) : Nat := ((tEL l - t0L l) / step + 1).toNat
theorem MapOk.span {l : List (Int × Int)} (h : MapOk l) : 0 ≤ t0L l ∧ t0L l ≤ tEL l ∧ tEL l ≤ 1000000000000 := by
  have := h.lo
  exact ⟨(h.time 0 (by omega)).1, h.timeLe (Nat.zero_le _) (by omega), (h.time _ (by omega)).2⟩
theorem curveN_lt {l : List (Int × Int)} {step : Int} {k : Nat} (h : MapOk l) (hs : 0 < step) : k < curveN l step ↔ t0L l + k * step ≤ tEL l := by
  obtain ⟨h1, h2, h3⟩ := h.span
  have e := Int.le_ediv_iff_mul_le (a := (k : Int)) (b := tEL l - t0L l) hs
  have h0 : 0 ≤ (tEL l - t0L l) / step := Int.ediv_nonneg (by omega) (by omega)
  unfold curveN
  constructor
  · intro hk
    have := e.1 (by omega)
    omega
  · intro hk
    have := e.2 (by omega)
    omega
theorem posAt_in {l : List (Int × Int)} {t : Int} (h : MapOk l) (h0 : t0L l ≤ t) (h1 : t ≤ tEL l) :
    posAtL l t = ((posLo (pieceOf l (atTime l t 0 (l.length - 2))) t, posHi (pieceOf l (atTime l t 0 (l.length - 2))) t), 0) := by
  have hl := h.lo
  unfold posAtL
  rw [if_pos h.err, h.timeOne h0 (k := l.length - 1) (i := 0) (by omega) (fun m hm => by omega) h1, if_neg (by omega)]
  rfl
theorem curveF_eq {l : List (Int × Int)} {step : Int} {k : Nat} (h : MapOk l) (hs : 0 < step) (hk : k < curveN l step) :
    curveF l step k = posLo (pieceOf l (atTime l (t0L l + k * step) 0 (l.length - 2))) (t0L l + k * step) := by
  unfold curveF
  rw [posAt_in h (by have := Int.mul_nonneg (show (0 : Int) ≤ k by omega) (show 0 ≤ step by omega); omega) ((curveN_lt h hs).1 hk)]

section
variable {H : AHeap} {kind deg num den step : Int} {l : List (Int × Int)} {v : Value}
set_option maxHeartbeats 4000000 in
theorem positions2_c {idn idr : Nat} (hok : MapOk l) (hs : 1 ≤ step ∧ step ≤ 1000000000000) :
    GenX Go.Proofs.Tryd.prog 147 [] [.pointer (some ⟨idn, 0, none⟩), .pointer (some ⟨idr, 0, none⟩)]
      (fun H => H[idn]? = some (.cells true 0 [v]) ∧ H[idr]? = some (.cells true 0 (rulesC kind deg num den step v)) ∧ Pairs H l v) (streamI (curveF l step) 0 (curveN l step)) false := by
  intro lp I S H hF happ hinf hround hI0
  show ACall _ _ [.func (.yield lp) #[] #[], .pointer (some ⟨idn, 0, none⟩), .pointer (some ⟨idr, 0, none⟩)] _ _
  obtain ⟨s1, s2, s3⟩ := hok.span
  have h02 := hok.lo
  have h20 := hok.hi
  obtain ⟨g0, g1, g2⟩ := hF _ _ hI0
  (refine a147 ?_; simp only [n147, List.replicate, List.length_cons, List.length_nil, List.cons_append, List.nil_append]; first | refine q1 ?_ | refine q2 ?_ | refine q6 ?_ | refine q7 ?_ | refine qh rfl ?_ | skip)
  have et : (l.getD 0 (0, 0)).2 = t0L l := rfl
  ((repeat (first | refine ya (by (with_reducible constructor) <;> first | rfl | decide) ?_ | apply yb | refine yc rfl ?_ | ((first | apply yd | apply ye); simp (disch := first | exact List.all_nil | omega | (simp only [go_sem]; done) | (simp only [ln, List.length_map]; omega) | (repeat' first | assumption | exact Ext.refl _ | refine Ext.app ?_ _)) only [go_sem, g2.len, g2.idx, g2.load, load_at g0, et]; with_reducible rfl))))
  refine awp_loop_n [true, true, true, false, true, false, false, false, false, false, false, false, false, false, false, false, false, false, false, false, false, false, false, false, false, false, false, false, false, false, false, false, false, false, false, false, false, false, false, false] (curveN l step) (fun i e H' => e = [.func (.yield lp) #[] #[], .pointer (some ⟨idn, 0, none⟩), .pointer (some ⟨idr, 0, none⟩), junk, .int .i64 (t0L l + i * step), junk, junk, junk, junk, junk, junk, junk, junk, junk, junk, junk, junk, junk, junk, junk, junk, junk, junk, junk, junk, junk, junk, junk, junk, junk, junk, junk, junk, junk, junk, junk, junk, junk, junk, junk] ∧ I (streamI (curveF l step) i (curveN l step - i)) H') ?_ ?_
  · exact ⟨by simp [forget, t0L], hI0⟩
  rintro i e H1 hi ⟨rfl, hI⟩
  obtain ⟨k0, k1, k2⟩ := hF _ _ hI
  have el : (l.length : Int) - 1 = ((l.length - 1 : Nat) : Int) := by omega
  have eE : (l.getD (l.length - 1) (0, 0)).2 = tEL l := rfl
  have m0 := Int.mul_nonneg (show (0 : Int) ≤ i by omega) (show 0 ≤ step by omega)
  have hlt := curveN_lt (k := i) hok (show 0 < step by omega)
  obtain ⟨z, hz⟩ : ∃ z, t0L l + (i : Int) * step = z := ⟨_, rfl⟩
  have hz1 : t0L l + ((i + 1 : Nat) : Int) * step = z + step := by
    rw [← hz, Int.natCast_add, Int.add_mul]; simp; omega
  by_cases hin : i < curveN l step
  rotate_left 1
  · obtain rfl : i = curveN l step := by omega
    rw [Nat.sub_self] at hI
    rw [hz] at hlt
    rw [hz]
    ((repeat (first | refine ya (by (with_reducible constructor) <;> first | rfl | decide) ?_ | apply yb | refine yc rfl ?_ | ((first | apply yd | apply ye); simp (disch := first | exact List.all_nil | omega | (simp only [go_sem]; done) | (simp only [ln, List.length_map]; omega) | (repeat' first | assumption | exact Ext.refl _ | refine Ext.app ?_ _)) only [go_sem, k2.len, k2.idx, k2.load, load_at k0, el, eE, dec_f (show ¬ z ≤ tEL l by omega)]; with_reducible rfl))))
    refine cond_f rfl ?_
    ((repeat (first | refine ya (by (with_reducible constructor) <;> first | rfl | decide) ?_ | apply yb | refine yc rfl ?_ | ((first | apply yd | apply ye); simp (disch := first | exact List.all_nil | omega | (simp only [go_sem]; done) | (simp only [ln, List.length_map]; omega) | (repeat' first | assumption | exact Ext.refl _ | refine Ext.app ?_ _)) only [go_sem]; with_reducible rfl))))
    exact ⟨.inl rfl, undef, rfl, .inl hI⟩
  have hzE := hlt.1 hin
  have hpa := posAt_in (t := z) hok (by omega) (by omega)
  have hcf : curveF l step i = (posAtL l z).1.1 := by unfold curveF; rw [hz]
  rw [hz] at hzE
  have he0 : (posAtL l z).2 = 0 := by rw [hpa]
  obtain ⟨n, hn⟩ : ∃ n, n = curveN l step - (i + 1) := ⟨_, rfl⟩
  rw [show curveN l step - i = n + 1 by omega] at hI
  have hI2 := happ _ _ [AObj.cells true 0 [.int .i64 (posAtL l z).1.1, .int .i64 (posAtL l z).1.2]] hI
  have b5 : (H1 ++ [AObj.cells true 0 [.int .i64 (posAtL l z).1.1, .int .i64 (posAtL l z).1.2]])[H1.length]? = some (.cells true 0 [.int .i64 (posAtL l z).1.1, .int .i64 (posAtL l z).1.2]) := at_new
  rw [hz]
  ((repeat (first | refine ya (by (with_reducible constructor) <;> first | rfl | decide) ?_ | apply yb | refine yc rfl ?_ | ((first | apply yd | apply ye); simp (disch := first | exact List.all_nil | omega | (simp only [go_sem]; done) | (simp only [ln, List.length_map]; omega) | (repeat' first | assumption | exact Ext.refl _ | refine Ext.app ?_ _)) only [go_sem, k2.len, k2.idx, k2.load, load_at k0, el, eE, dec_t hzE]; with_reducible rfl))))
  refine cond_t rfl ?_
  ((repeat (first | refine ya (by (with_reducible constructor) <;> first | rfl | decide) ?_ | apply yb | refine yc rfl ?_ | ((first | apply yd | apply ye); simp (disch := first | exact List.all_nil | omega | (simp only [go_sem]; done) | (simp only [ln, List.length_map]; omega) | (repeat' first | assumption | exact Ext.refl _ | refine Ext.app ?_ _)) only [go_sem, load_map k1]; with_reducible rfl))))
  refine aops_call_to (positionAt_c (t := z) k2 (by omega)) ?_
  rw [he0]
  have hround2 := hround _ _ _ hI2
  rw [hcf] at hround2
  ((repeat (first | refine ya (by (with_reducible constructor) <;> first | rfl | decide) ?_ | apply yb | refine yc rfl ?_ | ((first | apply yd | apply ye); simp (disch := first | exact List.all_nil | omega | (simp only [go_sem]; done) | (simp only [ln, List.length_map]; omega) | (repeat' first | assumption | exact Ext.refl _ | refine Ext.app ?_ _)) only [go_sem, store_newF, load_at b5]; with_reducible rfl))))
  refine aops_call (hround2.mono fun v1 H3 h => ?_)
  rcases h with ⟨rfl, hI3⟩ | ⟨rfl, hS⟩
  · obtain ⟨j0, j1, j2⟩ := hF _ _ hI3
    ((repeat (first | refine ya (by (with_reducible constructor) <;> first | rfl | decide) ?_ | apply yb | refine yc rfl ?_ | ((first | apply yd | apply ye); simp (disch := first | exact List.all_nil | omega | (simp only [go_sem]; done) | (simp only [ln, List.length_map]; omega) | (repeat' first | assumption | exact Ext.refl _ | refine Ext.app ?_ _)) only [go_sem]; with_reducible rfl))))
    refine cond_f rfl ?_
    ((repeat (first | refine ya (by (with_reducible constructor) <;> first | rfl | decide) ?_ | apply yb | refine yc rfl ?_ | ((first | apply yd | apply ye); simp (disch := first | exact List.all_nil | omega | (simp only [go_sem]; done) | (simp only [ln, List.length_map]; omega) | (repeat' first | assumption | exact Ext.refl _ | refine Ext.app ?_ _)) only [go_sem, load_at j1, rulesC]; with_reducible rfl))))
    exact ⟨by omega, by rw [hz1]; simp [forget], by rw [← hn]; exact hI3⟩
  · ((repeat (first | refine ya (by (with_reducible constructor) <;> first | rfl | decide) ?_ | apply yb | refine yc rfl ?_ | ((first | apply yd | apply ye); simp (disch := first | exact List.all_nil | omega | (simp only [go_sem]; done) | (simp only [ln, List.length_map]; omega) | (repeat' first | assumption | exact Ext.refl _ | refine Ext.app ?_ _)) only [go_sem]; with_reducible rfl))))
    refine cond_t rfl ?_
    ((repeat (first | refine ya (by (with_reducible constructor) <;> first | rfl | decide) ?_ | apply yb | refine yc rfl ?_ | ((first | apply yd | apply ye); simp (disch := first | exact List.all_nil | omega | (simp only [go_sem]; done) | (simp only [ln, List.length_map]; omega) | (repeat' first | assumption | exact Ext.refl _ | refine Ext.app ?_ _)) only [go_sem]; with_reducible rfl))))
    exact ⟨.inr rfl, undef, rfl, .inr hS⟩
end
end Go.Lq

namespace Go.Lq
open Go
open Go.Proofs

def outTo (f : Nat → Int) (k : Nat) : List Int := (List.range k).map f
theorem outTo_len (f : Nat → Int) (k : Nat) : (outTo f k).length = k := by simp [outTo]
theorem outTo_succ (f : Nat → Int) (k : Nat) : outTo f (k + 1) = outTo f k ++ [f k] := by simp [outTo, List.range_succ]
def outsL (f : Nat → Int) (N : Nat) (count : Int) : List Int × Int := (outTo f (outN f (64 * (count - 1)) 0 N).1, (outN f (64 * (count - 1)) 0 N).2)
theorem stream_nil {f : Nat → Int} {k n : Nat} (h : ([] : List (List Value)) = streamI f k n) : n = 0 := by
  cases n with
  | zero => rfl
  | succ n => cases h
theorem fin_2l {c : RCode} {n a b : Nat} {R : Value → AHeap → Prop} {e : Env} {H : AHeap} {u w : Value} (h1 : loadR (e.getD a undef) H = some (u, H)) (h2 : loadR (e.getD b undef) H = some (w, H)) (h : R (.tuple #[u, w]) H) :
    Fin ⟨c, n, [.load a, .load b]⟩ R .ret e H := by
  refine ⟨.inr rfl, _, ?_, h⟩
  unfold loadR at h1 h2
  split at h1
  · rename_i id off hp
    simp only [Option.map_eq_some_iff, Prod.mk.injEq, and_true] at h1
    obtain ⟨us, h3, rfl⟩ := h1
    split at h2
    · rename_i id' off' hp'
      simp only [Option.map_eq_some_iff, Prod.mk.injEq, and_true] at h2
      obtain ⟨us', h4, rfl⟩ := h2
      simp only [resultA, List.mapM_cons, resA, hp, h3, hp', h4, Option.map_some, List.mapM_nil]
      rfl
    · cases h2
  · cases h1

section
variable {H : AHeap} {kind deg num den step : Int} {l : List (Int × Int)} {v : Value}
theorem positionsR_c (hl : Pairs H l v) (h0 : kind = 0) : ACall Go.Proofs.Tryd.prog 132 [rulesV kind deg num den step v] H fun w H' =>
    w = .func (.func 146) #[] #[.pointer (some ⟨H.length, 0, none⟩)] ∧ H' = H ++ [.cells true 0 (rulesC kind deg num den step v)] := by
  (refine a132 ?_; simp only [n132, List.replicate, List.length_cons, List.length_nil, List.cons_append, List.nil_append]; first | refine q1 ?_ | refine q2 ?_ | refine q6 ?_ | refine q7 ?_ | refine qh rfl ?_ | skip)
  have g0 : (H ++ [AObj.cells true 0 (rulesC kind deg num den step v)])[H.length]? = some (.cells true 0 (rulesC kind deg num den step v)) := at_new
  have hk : loadR (.pointer (some ⟨H.length, 0, none⟩)) (H ++ [AObj.cells true 0 (rulesC kind deg num den step v)]) = some (.int .i64 kind, H ++ [AObj.cells true 0 (rulesC kind deg num den step v)]) := by rw [load_at g0]; rfl
  ((repeat (first | refine ya (by (with_reducible constructor) <;> first | rfl | decide) ?_ | apply yb | refine yc rfl ?_ | ((first | apply yd | apply ye); simp (disch := first | exact List.all_nil | omega | (simp only [go_sem]; done) | (simp only [ln, List.length_map]; omega) | (repeat' first | assumption | exact Ext.refl _ | refine Ext.app ?_ _)) only [go_sem, box_rules hl.atom, hk, dec_t h0]; with_reducible rfl))))
  refine cond_t rfl ?_
  ((repeat (first | refine ya (by (with_reducible constructor) <;> first | rfl | decide) ?_ | apply yb | refine yc rfl ?_ | ((first | apply yd | apply ye); simp (disch := first | exact List.all_nil | omega | (simp only [go_sem]; done) | (simp only [ln, List.length_map]; omega) | (repeat' first | assumption | exact Ext.refl _ | refine Ext.app ?_ _)) only [go_sem]; with_reducible rfl))))
  refine fin_1 ⟨?_, rfl⟩
  simp [go_sem]
theorem positionsC_c (hl : Pairs H l v) (h0 : ¬ kind = 0) : ACall Go.Proofs.Tryd.prog 132 [rulesV kind deg num den step v] H fun w H' =>
    w = .func (.func 147) #[] #[.pointer (some ⟨H.length + 1, 0, none⟩), .pointer (some ⟨H.length, 0, none⟩)] ∧ H' = H ++ [.cells true 0 (rulesC kind deg num den step v)] ++ [.cells true 0 [v]] := by
  (refine a132 ?_; simp only [n132, List.replicate, List.length_cons, List.length_nil, List.cons_append, List.nil_append]; first | refine q1 ?_ | refine q2 ?_ | refine q6 ?_ | refine q7 ?_ | refine qh rfl ?_ | skip)
  have g0 : (H ++ [AObj.cells true 0 (rulesC kind deg num den step v)])[H.length]? = some (.cells true 0 (rulesC kind deg num den step v)) := at_new
  have lG : (H ++ [AObj.cells true 0 (rulesC kind deg num den step v)]).length = H.length + 1 := by simp
  have hk : loadR (.pointer (some ⟨H.length, 0, none⟩)) (H ++ [AObj.cells true 0 (rulesC kind deg num den step v)]) = some (.int .i64 kind, H ++ [AObj.cells true 0 (rulesC kind deg num den step v)]) := by rw [load_at g0]; rfl
  have hm : loadR (.pointer (some ⟨H.length, 5, none⟩)) (H ++ [AObj.cells true 0 (rulesC kind deg num den step v)]) = some (v, H ++ [AObj.cells true 0 (rulesC kind deg num den step v)]) := by rw [load_at g0]; rfl
  ((repeat (first | refine ya (by (with_reducible constructor) <;> first | rfl | decide) ?_ | apply yb | refine yc rfl ?_ | ((first | apply yd | apply ye); simp (disch := first | exact List.all_nil | omega | (simp only [go_sem]; done) | (simp only [ln, List.length_map]; omega) | (repeat' first | assumption | exact Ext.refl _ | refine Ext.app ?_ _)) only [go_sem, box_rules hl.atom, hk, dec_f h0]; with_reducible rfl))))
  refine cond_f rfl ?_
  generalize (H ++ [AObj.cells true 0 (rulesC kind deg num den step v)] : AHeap) = G at g0 lG hm ⊢
  have hst : storeR 1 (.pointer (some ⟨G.length, 0, none⟩)) v (G ++ [AObj.cells true 0 [.slice none 0 0]]) = some (undef, G ++ [AObj.cells true 0 [v]]) := by
    have hc : v.cells = ⟨[v]⟩ := by rcases hl.2 with ⟨rfl, _⟩ | ⟨id, off, c, rfl, _⟩ <;> rfl
    rw [store_b1 (at_new : (G ++ [AObj.cells true 0 [.slice none 0 0]])[G.length]? = _) hl.atom hc]
    simp
  ((repeat (first | refine ya (by (with_reducible constructor) <;> first | rfl | decide) ?_ | apply yb | refine yc rfl ?_ | ((first | apply yd | apply ye); simp (disch := first | exact List.all_nil | omega | (simp only [go_sem]; done) | (simp only [ln, List.length_map]; omega) | (repeat' first | assumption | exact Ext.refl _ | refine Ext.app ?_ _)) only [go_sem, hm, hst]; with_reducible rfl))))
  refine fin_1 ⟨?_, rfl⟩
  simp [go_sem, lG]

set_option maxHeartbeats 8000000 in
theorem outputsR_c {count : Int} (hl : Pairs H l v) (h0 : kind = 0) (hn : 1 ≤ num ∧ num ≤ 1000) (hd : 1 ≤ den ∧ den ≤ 1000) (hcnt : 0 ≤ count ∧ count ≤ 400) : ACall Go.Proofs.Tryd.prog 90 [rulesV kind deg num den step v, .int .i64 count] H
    (IntsRes H (outsL (ratioF num den) (2001) count).1 (outsL (ratioF num den) (2001) count).2) := by
  refine ACall.intsE ?_
  (refine a90 ?_; simp only [n90, List.replicate, List.length_cons, List.length_nil, List.cons_append, List.nil_append]; first | refine q1 ?_ | refine q2 ?_ | refine q6 ?_ | refine q7 ?_ | refine qh rfl ?_ | skip)
  have hbi : ∀ J : AHeap, boxR (.int .i64 count) J = some (.pointer (some ⟨J.length, 0, none⟩), J ++ [.cells true 0 [.int .i64 count]]) := fun J => rfl
  obtain ⟨G, hG⟩ : ∃ G, G = H ++ [AObj.cells true 0 (rulesC kind deg num den step v)] ++ [AObj.cells true 0 [.int .i64 count]] ++ [AObj.cells true 0 [.slice none 0 0]] ++ [AObj.cells true 0 [.int .i64 0]] := ⟨_, rfl⟩
  have g0 : G[H.length]? = some (.cells true 0 (rulesC kind deg num den step v)) := by rw [hG]; simp
  have g1 : G[H.length + 1]? = some (.cells true 0 [.int .i64 count]) := by rw [hG]; simp
  have g2 : G[H.length + 2]? = some (.cells true 0 [.slice none 0 0]) := by rw [hG]; simp
  have g3 : G[H.length + 3]? = some (.cells true 0 [.int .i64 0]) := by rw [hG]; simp
  have xG : Ext H G := by rw [hG]; exact ((((Ext.refl H).app _).app _).app _).app _
  have lG : G.length = H.length + 4 := by rw [hG]; simp
  (repeat (first | refine ya (by (with_reducible constructor) <;> first | rfl | decide) ?_ | (apply yd; simp (disch := first | exact List.all_nil | omega | (simp only [go_sem]; done) | (simp only [ln, List.length_map]; omega) | (repeat' first | assumption | exact Ext.refl _ | refine Ext.app ?_ _)) only [go_sem, box_rules hl.atom, hbi]; with_reducible rfl)))
  (simp only [List.length_append, List.length_cons, List.length_nil, Nat.zero_add, Nat.add_assoc, Nat.reduceAdd])
  rw [← hG]
  clear hG
  obtain ⟨f, hf⟩ : ∃ f, f = ratioF num den := ⟨_, rfl⟩
  obtain ⟨N, hN⟩ : ∃ N, N = 2001 := ⟨_, rfl⟩
  obtain ⟨B, hB⟩ : ∃ B, 64 * (count - 1) = B := ⟨_, rfl⟩
  have ho : outsL (ratioF num den) (2001) count = (outTo f (outN f B 0 N).1, (outN f B 0 N).2) := by unfold outsL; rw [hf, hN, hB]
  rw [ho]
  have z0 := at_app (N := [AObj.cells true 0 [.slice none 0 0]]) g0
  have z4 : (G ++ [AObj.cells true 0 [.slice none 0 0]])[H.length + 4]? = some (.cells true 0 [.slice none 0 0]) := by rw [← lG]; exact at_new
  have x1 := (Ext.refl G).app [AObj.cells true 0 [.slice none 0 0]]
  have l1 : (G ++ [AObj.cells true 0 [.slice none 0 0]]).length = G.length + 1 := by simp
  have l6 : loadNR 6 (.pointer (some ⟨H.length, 0, none⟩)) (G ++ [AObj.cells true 0 [.slice none 0 0]]) = some (rulesV kind deg num den step v, G ++ [AObj.cells true 0 [.slice none 0 0]]) := loadN_at z0 (by simp [rulesC])
  ((repeat (first | refine ya (by (with_reducible constructor) <;> first | rfl | decide) ?_ | apply yb | refine yc rfl ?_ | ((first | apply yd | apply ye); simp (disch := first | exact List.all_nil | omega | (simp only [go_sem]; done) | (simp only [ln, List.length_map]; omega) | (repeat' first | assumption | exact Ext.refl _ | refine Ext.app ?_ _)) only [go_sem, l6]; with_reducible rfl))))
  generalize (G ++ [AObj.cells true 0 [.slice none 0 0]] : AHeap) = G1 at z0 z4 x1 l1 l6
  refine aops_call ((positionsR_c (hl.ext (xG.trans x1)) h0).mono fun v1 G3 ⟨e1, e2⟩ => ?_)
  subst e1
  have x3 : Ext G1 G3 := by rw [e2]; exact (Ext.refl _).app _
  have kr : G3[G1.length]? = some (.cells true 0 (rulesC kind deg num den step v)) := by rw [e2]; exact at_new
  clear e2
  have xG3 := x1.trans x3
  have xH3 := xG.trans xG3
  have k1 := xG3.cell g1
  have k2 := xG3.cell g2
  have k3 := xG3.cell g3
  have k4 := x3.cell z4
  have l3 := x3.len
  (repeat (first | refine ya (by (with_reducible constructor) <;> first | rfl | decide) ?_ | apply yb | refine yc rfl ?_))
  refine awp_rangeX mo rfl (fun l h => by cases h) (positions1_c (kind := kind) (deg := deg) (step := step) (v := v) (idr := G1.length) hn hd)
    (fun rest H' => ∃ k ov, rest = streamI (ratioF num den) k ((2001) - k) ∧ k ≤ (2001) ∧ k ≤ 2000 ∧ outN f B 0 N = outN f B k (N - k) ∧ BoxI (H.length + 4) G3 (outTo f k) ov H')
    (fun x H' => (x = .exit 0 ∧ ∃ ov, BoxI (H.length + 4) G3 (outTo f (outN f B 0 N).1) ov H' ∧ (outN f B 0 N).2 = 0) ∨
      (x = .ret ∧ outN f B 0 N = (0, 8) ∧ H'[H.length + 2]? = some (.cells true 0 [.slice none 0 0]) ∧ H'[H.length + 3]? = some (.cells true 0 [.int .i64 8]) ∧ Ext H H')) ?_ ?_ ?_ ?_ ?_ ?_ ?_ ?_ ?_
  · rintro rest H' c' ⟨k, ov, h1, h2, h3, h4, h5⟩
    exact ⟨k, ov, h1, h2, h3, h4, h5.set (by omega) _⟩
  · rintro x H' c' (⟨h1, ov, h2, h3⟩ | ⟨h1, h2, h3, h4, h5⟩)
    · exact .inl ⟨h1, ov, h2.set (by omega) _, h3⟩
    · refine .inr ⟨h1, h2, ?_, ?_, h5.set (by omega) _⟩
      · rw [List.getElem?_set_ne (by omega)]; exact h3
      · rw [List.getElem?_set_ne (by omega)]; exact h4
  · rintro rest H' ⟨k, ov, h1, h2, h3, h4, h5⟩
    exact h5.keeps.get kr (by omega)
  · rintro rest H' N' ⟨k, ov, h1, h2, h3, h4, h5⟩
    exact ⟨k, ov, h1, h2, h3, h4, h5.app _⟩
  · rintro hi H' ⟨k, ov, h1, h2, h3, h4, h5⟩
    have := stream_nil h1; omega
  · intro N'
    exact ⟨0, .slice none 0 0, rfl, Nat.zero_le _, Nat.zero_le _, by rw [Nat.sub_zero], Keeps.of_ext ((Ext.refl _).app _), at_app k4, OwnI.nil _ _⟩
  · rintro a rest H1 ⟨k, ov, h1, h2, h3, h4, h5⟩ hlt
    obtain ⟨n, hn⟩ : ∃ n, (2001) - k = n := ⟨_, rfl⟩
    rw [hn] at h1
    rw [show N - k = n by rw [hN]; exact hn] at h4
    match n, h1 with
    | n + 1, h1 =>
    obtain ⟨rfl, rfl⟩ := List.cons.inj h1
    rw [outN_succ] at h4
    refine ⟨rfl, fun R Rb _ hR => ?_⟩
    simp only [assignParams, List.zip_cons_cons, List.zip_nil_left, List.foldl_cons, List.foldl_nil]
    ((repeat (first | refine ya (by (with_reducible constructor) <;> first | rfl | decide) ?_ | apply yb | refine yc rfl ?_ | ((first | apply yd | apply ye); simp (disch := first | exact List.all_nil | omega | (simp only [go_sem]; done) | (simp only [ln, List.length_map]; omega) | (repeat' first | assumption | exact Ext.refl _ | refine Ext.app ?_ _)) only [go_sem]; with_reducible rfl))))
    refine ⟨rfl, hR, ?_⟩
    have hRb := get_set_self (d := Rb) hR
    have h6 := h5.set (k := H.length + 4) (by omega) Rb
    have hlb : G3.length < (H1.set G3.length Rb).length := by simpa using hlt
    generalize (H1.set G3.length Rb : AHeap) = Hb at h6 hRb hlb
    have xHb := h6.keeps.ext xH3 (by omega)
    have efk : (ratioF num den) k = f k := by rw [hf]
    rw [efk]
    have hoI := h6.own.ints
    ((repeat (first | refine ya (by (with_reducible constructor) <;> first | rfl | decide) ?_ | apply yb | refine yc rfl ?_ | ((first | apply yd | apply ye); simp (disch := first | exact List.all_nil | omega | (simp only [go_sem]; done) | (simp only [ln, List.length_map]; omega) | (repeat' first | assumption | exact Ext.refl _ | refine Ext.app ?_ _)) only [go_sem, load_at (h6.keeps.get k1 (by omega)), hB]; with_reducible rfl))))
    refine cond_p rfl (fun hq => ?_) (fun hq => ?_)
    · rw [if_pos hq] at h4
      ((repeat (first | refine ya (by (with_reducible constructor) <;> first | rfl | decide) ?_ | apply yb | refine yc rfl ?_ | ((first | apply yd | apply ye); simp (disch := first | exact List.all_nil | omega | (simp only [go_sem]; done) | (simp only [ln, List.length_map]; omega) | (repeat' first | assumption | exact Ext.refl _ | refine Ext.app ?_ _)) only [go_sem]; with_reducible rfl))))
      refine rounded_x hRb (.inl ⟨rfl, ov, ?_, ?_⟩)
      · rw [h4]; exact h6
      · rw [h4]
    rw [if_neg hq] at h4
    by_cases hk : k = 2000
    · rw [if_pos hk] at h4
      have b2 := h6.keeps.get k2 (by omega)
      have b3 := h6.keeps.get k3 (by omega)
      have b3' : (Hb.set (H.length + 2) (.cells true 0 [.slice none 0 0]))[H.length + 3]? = some (.cells true 0 [.int .i64 0]) := by rw [List.getElem?_set_ne (by omega)]; exact b3
      ((repeat (first | refine ya (by (with_reducible constructor) <;> first | rfl | decide) ?_ | apply yb | refine yc rfl ?_ | ((first | apply yd | apply ye); simp (disch := first | exact List.all_nil | omega | (simp only [go_sem]; done) | (simp only [ln, List.length_map]; omega) | (repeat' first | assumption | exact Ext.refl _ | refine Ext.app ?_ _)) only [go_sem, hoI.len, hoI.idx, hoI.load, load_at h6.box, outTo_len, dec_t (show ((k : Nat) : Int) = 2000 by omega)]; with_reducible rfl))))
      refine cond_t rfl ?_
      ((repeat (first | refine ya (by (with_reducible constructor) <;> first | rfl | decide) ?_ | apply yb | refine yc rfl ?_ | ((first | apply yd | apply ye); simp (disch := first | exact List.all_nil | omega | (simp only [go_sem]; done) | (simp only [ln, List.length_map]; omega) | (repeat' first | assumption | exact Ext.refl _ | refine Ext.app ?_ _)) only [go_sem, store_b1 b2 (y := .slice none 0 0) rfl rfl, store_b1 b3' (y := .int .i64 8) rfl rfl]; with_reducible rfl))))
      refine rounded_r ?_ (.inr ⟨rfl, h4, ?_, get_set_self b3', (xHb.set (by omega) _).set (by omega) _⟩)
      · rw [List.getElem?_set_ne (by omega), List.getElem?_set_ne (by omega)]; exact hRb
      · rw [List.getElem?_set_ne (by omega)]; exact get_set_self b2
    · rw [if_neg hk] at h4
      obtain ⟨s1, s2, s3⟩ := h6.push (by omega) hlb (f k) hRb
      have hpush := h6.own.push (by rw [outTo_len]; omega) (f k)
      ((repeat (first | refine ya (by (with_reducible constructor) <;> first | rfl | decide) ?_ | apply yb | refine yc rfl ?_ | ((first | apply yd | apply ye); simp (disch := first | exact List.all_nil | omega | (simp only [go_sem]; done) | (simp only [ln, List.length_map]; omega) | (repeat' first | assumption | exact Ext.refl _ | refine Ext.app ?_ _)) only [go_sem, hoI.len, hoI.idx, hoI.load, load_at h6.box, outTo_len, dec_f (show ¬ ((k : Nat) : Int) = 2000 by omega)]; with_reducible rfl))))
      refine cond_f rfl ?_
      ((repeat (first | refine ya (by (with_reducible constructor) <;> first | rfl | decide) ?_ | apply yb | refine yc rfl ?_ | ((first | apply yd | apply ye); simp (disch := first | exact List.all_nil | omega | (simp only [go_sem]; done) | (simp only [ln, List.length_map]; omega) | (repeat' first | assumption | exact Ext.refl _ | refine Ext.app ?_ _)) only [go_sem, load_at h6.box, hpush, s1]; with_reducible rfl))))
      refine rounded_n s3 ⟨k + 1, pushV Hb (outTo f k).length, ?_, by omega, by omega, ?_, ?_⟩
      · rw [show (2001) - (k + 1) = n by omega]
      · rw [h4, show N - (k + 1) = n by rw [hN]; omega]
      · rw [outTo_succ]; exact s2
  · rintro H' ⟨k, ov, h1, h2, h3, h4, h5⟩
    have h0 := stream_nil h1
    rw [show N - k = 0 by rw [hN]; exact h0] at h4
    have e1 : outN f B 0 N = (k, 0) := h4
    rw [e1]
    have b2 := h5.keeps.get k2 (by omega)
    have b3 := h5.keeps.get k3 (by omega)
    have xH' := h5.keeps.ext xH3 (by omega)
    have hov : ov.cells = ⟨[ov]⟩ := by rcases h5.own.ints.2 with ⟨rfl, _⟩ | ⟨id, off, c, rfl, _⟩ <;> rfl
    have b3' : (H'.set (H.length + 2) (.cells true 0 [ov]))[H.length + 3]? = some (.cells true 0 [.int .i64 0]) := by rw [List.getElem?_set_ne (by omega)]; exact b3
    ((repeat (first | refine ya (by (with_reducible constructor) <;> first | rfl | decide) ?_ | apply yb | refine yc rfl ?_ | ((first | apply yd | apply ye); simp (disch := first | exact List.all_nil | omega | (simp only [go_sem]; done) | (simp only [ln, List.length_map]; omega) | (repeat' first | assumption | exact Ext.refl _ | refine Ext.app ?_ _)) only [go_sem, load_at h5.box, store_b1 b2 h5.own.ints.atom hov, store_b1 b3' (y := .int .i64 0) rfl rfl]; with_reducible rfl))))
    refine fin_2l (u := ov) (w := .int .i64 0) (load1 (by rw [List.getElem?_set_ne (by omega)]; exact get_set_self b2)) (load1 (get_set_self b3')) ⟨ov, rfl, (xH'.set (by omega) _).set (by omega) _, ?_⟩
    exact ((h5.own.set_ne (h5.own.aside (by simp; omega)) _).set_ne (h5.own.aside (by simp; omega)) _).weaken (by simp; omega)
  · rintro x H' hx (⟨rfl, ov, h5, h6⟩ | ⟨rfl, h2, h3, h4, h5⟩)
    · have b2 := h5.keeps.get k2 (by omega)
      have b3 := h5.keeps.get k3 (by omega)
      have xH' := h5.keeps.ext xH3 (by omega)
      have hov : ov.cells = ⟨[ov]⟩ := by rcases h5.own.ints.2 with ⟨rfl, _⟩ | ⟨id, off, c, rfl, _⟩ <;> rfl
      have b3' : (H'.set (H.length + 2) (.cells true 0 [ov]))[H.length + 3]? = some (.cells true 0 [.int .i64 0]) := by rw [List.getElem?_set_ne (by omega)]; exact b3
      rw [h6]
      ((repeat (first | refine ya (by (with_reducible constructor) <;> first | rfl | decide) ?_ | apply yb | refine yc rfl ?_ | ((first | apply yd | apply ye); simp (disch := first | exact List.all_nil | omega | (simp only [go_sem]; done) | (simp only [ln, List.length_map]; omega) | (repeat' first | assumption | exact Ext.refl _ | refine Ext.app ?_ _)) only [go_sem, load_at h5.box, store_b1 b2 h5.own.ints.atom hov, store_b1 b3' (y := .int .i64 0) rfl rfl]; with_reducible rfl))))
      refine fin_2l (u := ov) (w := .int .i64 0) (load1 (by rw [List.getElem?_set_ne (by omega)]; exact get_set_self b2)) (load1 (get_set_self b3')) ⟨ov, rfl, (xH'.set (by omega) _).set (by omega) _, ?_⟩
      exact ((h5.own.set_ne (h5.own.aside (by simp; omega)) _).set_ne (h5.own.aside (by simp; omega)) _).weaken (by simp; omega)
    · rw [h2]
      ((repeat (first | refine ya (by (with_reducible constructor) <;> first | rfl | decide) ?_ | apply yb | refine yc rfl ?_ | ((first | apply yd | apply ye); simp (disch := first | exact List.all_nil | omega | (simp only [go_sem]; done) | (simp only [ln, List.length_map]; omega) | (repeat' first | assumption | exact Ext.refl _ | refine Ext.app ?_ _)) only [go_sem]; with_reducible rfl))))
      refine fin_2l (u := .slice none 0 0) (w := .int .i64 8) (load1 h3) (load1 h4) ⟨_, rfl, h5, OwnI.nil _ _⟩

set_option maxHeartbeats 8000000 in
theorem outputsC_c {count : Int} (hl : Pairs H l v) (h0 : ¬ kind = 0) (hok : MapOk l) (hs : 1 ≤ step ∧ step ≤ 1000000000000) (hcnt : 0 ≤ count ∧ count ≤ 400) : ACall Go.Proofs.Tryd.prog 90 [rulesV kind deg num den step v, .int .i64 count] H
    (IntsRes H (outsL (curveF l step) (curveN l step) count).1 (outsL (curveF l step) (curveN l step) count).2) := by
  refine ACall.intsE ?_
  (refine a90 ?_; simp only [n90, List.replicate, List.length_cons, List.length_nil, List.cons_append, List.nil_append]; first | refine q1 ?_ | refine q2 ?_ | refine q6 ?_ | refine q7 ?_ | refine qh rfl ?_ | skip)
  have hbi : ∀ J : AHeap, boxR (.int .i64 count) J = some (.pointer (some ⟨J.length, 0, none⟩), J ++ [.cells true 0 [.int .i64 count]]) := fun J => rfl
  obtain ⟨G, hG⟩ : ∃ G, G = H ++ [AObj.cells true 0 (rulesC kind deg num den step v)] ++ [AObj.cells true 0 [.int .i64 count]] ++ [AObj.cells true 0 [.slice none 0 0]] ++ [AObj.cells true 0 [.int .i64 0]] := ⟨_, rfl⟩
  have g0 : G[H.length]? = some (.cells true 0 (rulesC kind deg num den step v)) := by rw [hG]; simp
  have g1 : G[H.length + 1]? = some (.cells true 0 [.int .i64 count]) := by rw [hG]; simp
  have g2 : G[H.length + 2]? = some (.cells true 0 [.slice none 0 0]) := by rw [hG]; simp
  have g3 : G[H.length + 3]? = some (.cells true 0 [.int .i64 0]) := by rw [hG]; simp
  have xG : Ext H G := by rw [hG]; exact ((((Ext.refl H).app _).app _).app _).app _
  have lG : G.length = H.length + 4 := by rw [hG]; simp
  (repeat (first | refine ya (by (with_reducible constructor) <;> first | rfl | decide) ?_ | (apply yd; simp (disch := first | exact List.all_nil | omega | (simp only [go_sem]; done) | (simp only [ln, List.length_map]; omega) | (repeat' first | assumption | exact Ext.refl _ | refine Ext.app ?_ _)) only [go_sem, box_rules hl.atom, hbi]; with_reducible rfl)))
  (simp only [List.length_append, List.length_cons, List.length_nil, Nat.zero_add, Nat.add_assoc, Nat.reduceAdd])
  rw [← hG]
  clear hG
  obtain ⟨f, hf⟩ : ∃ f, f = curveF l step := ⟨_, rfl⟩
  obtain ⟨N, hN⟩ : ∃ N, N = curveN l step := ⟨_, rfl⟩
  obtain ⟨B, hB⟩ : ∃ B, 64 * (count - 1) = B := ⟨_, rfl⟩
  have ho : outsL (curveF l step) (curveN l step) count = (outTo f (outN f B 0 N).1, (outN f B 0 N).2) := by unfold outsL; rw [hf, hN, hB]
  rw [ho]
  have z0 := at_app (N := [AObj.cells true 0 [.slice none 0 0]]) g0
  have z4 : (G ++ [AObj.cells true 0 [.slice none 0 0]])[H.length + 4]? = some (.cells true 0 [.slice none 0 0]) := by rw [← lG]; exact at_new
  have x1 := (Ext.refl G).app [AObj.cells true 0 [.slice none 0 0]]
  have l1 : (G ++ [AObj.cells true 0 [.slice none 0 0]]).length = G.length + 1 := by simp
  have l6 : loadNR 6 (.pointer (some ⟨H.length, 0, none⟩)) (G ++ [AObj.cells true 0 [.slice none 0 0]]) = some (rulesV kind deg num den step v, G ++ [AObj.cells true 0 [.slice none 0 0]]) := loadN_at z0 (by simp [rulesC])
  ((repeat (first | refine ya (by (with_reducible constructor) <;> first | rfl | decide) ?_ | apply yb | refine yc rfl ?_ | ((first | apply yd | apply ye); simp (disch := first | exact List.all_nil | omega | (simp only [go_sem]; done) | (simp only [ln, List.length_map]; omega) | (repeat' first | assumption | exact Ext.refl _ | refine Ext.app ?_ _)) only [go_sem, l6]; with_reducible rfl))))
  generalize (G ++ [AObj.cells true 0 [.slice none 0 0]] : AHeap) = G1 at z0 z4 x1 l1 l6
  refine aops_call ((positionsC_c (hl.ext (xG.trans x1)) h0).mono fun v1 G3 ⟨e1, e2⟩ => ?_)
  subst e1
  have x3 : Ext G1 G3 := by rw [e2]; exact ((Ext.refl _).app _).app _
  have kr : G3[G1.length]? = some (.cells true 0 (rulesC kind deg num den step v)) := by rw [e2]; simp
  have kn : G3[G1.length + 1]? = some (.cells true 0 [v]) := by rw [e2]; simp
  clear e2
  have xG3 := x1.trans x3
  have xH3 := xG.trans xG3
  have k1 := xG3.cell g1
  have k2 := xG3.cell g2
  have k3 := xG3.cell g3
  have k4 := x3.cell z4
  have l3 := x3.len
  (repeat (first | refine ya (by (with_reducible constructor) <;> first | rfl | decide) ?_ | apply yb | refine yc rfl ?_))
  refine awp_rangeX mo rfl (fun l h => by cases h) (positions2_c (kind := kind) (deg := deg) (num := num) (den := den) (v := v) (idn := G1.length + 1) (idr := G1.length) hok hs)
    (fun rest H' => ∃ k ov, rest = streamI (curveF l step) k ((curveN l step) - k) ∧ k ≤ (curveN l step) ∧ k ≤ 2000 ∧ outN f B 0 N = outN f B k (N - k) ∧ BoxI (H.length + 4) G3 (outTo f k) ov H')
    (fun x H' => (x = .exit 0 ∧ ∃ ov, BoxI (H.length + 4) G3 (outTo f (outN f B 0 N).1) ov H' ∧ (outN f B 0 N).2 = 0) ∨
      (x = .ret ∧ outN f B 0 N = (0, 8) ∧ H'[H.length + 2]? = some (.cells true 0 [.slice none 0 0]) ∧ H'[H.length + 3]? = some (.cells true 0 [.int .i64 8]) ∧ Ext H H')) ?_ ?_ ?_ ?_ ?_ ?_ ?_ ?_ ?_
  · rintro rest H' c' ⟨k, ov, h1, h2, h3, h4, h5⟩
    exact ⟨k, ov, h1, h2, h3, h4, h5.set (by omega) _⟩
  · rintro x H' c' (⟨h1, ov, h2, h3⟩ | ⟨h1, h2, h3, h4, h5⟩)
    · exact .inl ⟨h1, ov, h2.set (by omega) _, h3⟩
    · refine .inr ⟨h1, h2, ?_, ?_, h5.set (by omega) _⟩
      · rw [List.getElem?_set_ne (by omega)]; exact h3
      · rw [List.getElem?_set_ne (by omega)]; exact h4
  · rintro rest H' ⟨k, ov, h1, h2, h3, h4, h5⟩
    exact ⟨h5.keeps.get kn (by omega), h5.keeps.get kr (by omega), hl.ext (h5.keeps.ext xH3 (by omega))⟩
  · rintro rest H' N' ⟨k, ov, h1, h2, h3, h4, h5⟩
    exact ⟨k, ov, h1, h2, h3, h4, h5.app _⟩
  · rintro hi H' ⟨k, ov, h1, h2, h3, h4, h5⟩
    cases hi
  · intro N'
    exact ⟨0, .slice none 0 0, rfl, Nat.zero_le _, Nat.zero_le _, by rw [Nat.sub_zero], Keeps.of_ext ((Ext.refl _).app _), at_app k4, OwnI.nil _ _⟩
  · rintro a rest H1 ⟨k, ov, h1, h2, h3, h4, h5⟩ hlt
    obtain ⟨n, hn⟩ : ∃ n, (curveN l step) - k = n := ⟨_, rfl⟩
    rw [hn] at h1
    rw [show N - k = n by rw [hN]; exact hn] at h4
    match n, h1 with
    | n + 1, h1 =>
    obtain ⟨rfl, rfl⟩ := List.cons.inj h1
    rw [outN_succ] at h4
    refine ⟨rfl, fun R Rb _ hR => ?_⟩
    simp only [assignParams, List.zip_cons_cons, List.zip_nil_left, List.foldl_cons, List.foldl_nil]
    ((repeat (first | refine ya (by (with_reducible constructor) <;> first | rfl | decide) ?_ | apply yb | refine yc rfl ?_ | ((first | apply yd | apply ye); simp (disch := first | exact List.all_nil | omega | (simp only [go_sem]; done) | (simp only [ln, List.length_map]; omega) | (repeat' first | assumption | exact Ext.refl _ | refine Ext.app ?_ _)) only [go_sem]; with_reducible rfl))))
    refine ⟨rfl, hR, ?_⟩
    have hRb := get_set_self (d := Rb) hR
    have h6 := h5.set (k := H.length + 4) (by omega) Rb
    have hlb : G3.length < (H1.set G3.length Rb).length := by simpa using hlt
    generalize (H1.set G3.length Rb : AHeap) = Hb at h6 hRb hlb
    have xHb := h6.keeps.ext xH3 (by omega)
    have efk : (curveF l step) k = f k := by rw [hf]
    rw [efk]
    have hoI := h6.own.ints
    ((repeat (first | refine ya (by (with_reducible constructor) <;> first | rfl | decide) ?_ | apply yb | refine yc rfl ?_ | ((first | apply yd | apply ye); simp (disch := first | exact List.all_nil | omega | (simp only [go_sem]; done) | (simp only [ln, List.length_map]; omega) | (repeat' first | assumption | exact Ext.refl _ | refine Ext.app ?_ _)) only [go_sem, load_at (h6.keeps.get k1 (by omega)), hB]; with_reducible rfl))))
    refine cond_p rfl (fun hq => ?_) (fun hq => ?_)
    · rw [if_pos hq] at h4
      ((repeat (first | refine ya (by (with_reducible constructor) <;> first | rfl | decide) ?_ | apply yb | refine yc rfl ?_ | ((first | apply yd | apply ye); simp (disch := first | exact List.all_nil | omega | (simp only [go_sem]; done) | (simp only [ln, List.length_map]; omega) | (repeat' first | assumption | exact Ext.refl _ | refine Ext.app ?_ _)) only [go_sem]; with_reducible rfl))))
      refine rounded_x hRb (.inl ⟨rfl, ov, ?_, ?_⟩)
      · rw [h4]; exact h6
      · rw [h4]
    rw [if_neg hq] at h4
    by_cases hk : k = 2000
    · rw [if_pos hk] at h4
      have b2 := h6.keeps.get k2 (by omega)
      have b3 := h6.keeps.get k3 (by omega)
      have b3' : (Hb.set (H.length + 2) (.cells true 0 [.slice none 0 0]))[H.length + 3]? = some (.cells true 0 [.int .i64 0]) := by rw [List.getElem?_set_ne (by omega)]; exact b3
      ((repeat (first | refine ya (by (with_reducible constructor) <;> first | rfl | decide) ?_ | apply yb | refine yc rfl ?_ | ((first | apply yd | apply ye); simp (disch := first | exact List.all_nil | omega | (simp only [go_sem]; done) | (simp only [ln, List.length_map]; omega) | (repeat' first | assumption | exact Ext.refl _ | refine Ext.app ?_ _)) only [go_sem, hoI.len, hoI.idx, hoI.load, load_at h6.box, outTo_len, dec_t (show ((k : Nat) : Int) = 2000 by omega)]; with_reducible rfl))))
      refine cond_t rfl ?_
      ((repeat (first | refine ya (by (with_reducible constructor) <;> first | rfl | decide) ?_ | apply yb | refine yc rfl ?_ | ((first | apply yd | apply ye); simp (disch := first | exact List.all_nil | omega | (simp only [go_sem]; done) | (simp only [ln, List.length_map]; omega) | (repeat' first | assumption | exact Ext.refl _ | refine Ext.app ?_ _)) only [go_sem, store_b1 b2 (y := .slice none 0 0) rfl rfl, store_b1 b3' (y := .int .i64 8) rfl rfl]; with_reducible rfl))))
      refine rounded_r ?_ (.inr ⟨rfl, h4, ?_, get_set_self b3', (xHb.set (by omega) _).set (by omega) _⟩)
      · rw [List.getElem?_set_ne (by omega), List.getElem?_set_ne (by omega)]; exact hRb
      · rw [List.getElem?_set_ne (by omega)]; exact get_set_self b2
    · rw [if_neg hk] at h4
      obtain ⟨s1, s2, s3⟩ := h6.push (by omega) hlb (f k) hRb
      have hpush := h6.own.push (by rw [outTo_len]; omega) (f k)
      ((repeat (first | refine ya (by (with_reducible constructor) <;> first | rfl | decide) ?_ | apply yb | refine yc rfl ?_ | ((first | apply yd | apply ye); simp (disch := first | exact List.all_nil | omega | (simp only [go_sem]; done) | (simp only [ln, List.length_map]; omega) | (repeat' first | assumption | exact Ext.refl _ | refine Ext.app ?_ _)) only [go_sem, hoI.len, hoI.idx, hoI.load, load_at h6.box, outTo_len, dec_f (show ¬ ((k : Nat) : Int) = 2000 by omega)]; with_reducible rfl))))
      refine cond_f rfl ?_
      ((repeat (first | refine ya (by (with_reducible constructor) <;> first | rfl | decide) ?_ | apply yb | refine yc rfl ?_ | ((first | apply yd | apply ye); simp (disch := first | exact List.all_nil | omega | (simp only [go_sem]; done) | (simp only [ln, List.length_map]; omega) | (repeat' first | assumption | exact Ext.refl _ | refine Ext.app ?_ _)) only [go_sem, load_at h6.box, hpush, s1]; with_reducible rfl))))
      refine rounded_n s3 ⟨k + 1, pushV Hb (outTo f k).length, ?_, by omega, by omega, ?_, ?_⟩
      · rw [show (curveN l step) - (k + 1) = n by omega]
      · rw [h4, show N - (k + 1) = n by rw [hN]; omega]
      · rw [outTo_succ]; exact s2
  · rintro H' ⟨k, ov, h1, h2, h3, h4, h5⟩
    have h0 := stream_nil h1
    rw [show N - k = 0 by rw [hN]; exact h0] at h4
    have e1 : outN f B 0 N = (k, 0) := h4
    rw [e1]
    have b2 := h5.keeps.get k2 (by omega)
    have b3 := h5.keeps.get k3 (by omega)
    have xH' := h5.keeps.ext xH3 (by omega)
    have hov : ov.cells = ⟨[ov]⟩ := by rcases h5.own.ints.2 with ⟨rfl, _⟩ | ⟨id, off, c, rfl, _⟩ <;> rfl
    have b3' : (H'.set (H.length + 2) (.cells true 0 [ov]))[H.length + 3]? = some (.cells true 0 [.int .i64 0]) := by rw [List.getElem?_set_ne (by omega)]; exact b3
    ((repeat (first | refine ya (by (with_reducible constructor) <;> first | rfl | decide) ?_ | apply yb | refine yc rfl ?_ | ((first | apply yd | apply ye); simp (disch := first | exact List.all_nil | omega | (simp only [go_sem]; done) | (simp only [ln, List.length_map]; omega) | (repeat' first | assumption | exact Ext.refl _ | refine Ext.app ?_ _)) only [go_sem, load_at h5.box, store_b1 b2 h5.own.ints.atom hov, store_b1 b3' (y := .int .i64 0) rfl rfl]; with_reducible rfl))))
    refine fin_2l (u := ov) (w := .int .i64 0) (load1 (by rw [List.getElem?_set_ne (by omega)]; exact get_set_self b2)) (load1 (get_set_self b3')) ⟨ov, rfl, (xH'.set (by omega) _).set (by omega) _, ?_⟩
    exact ((h5.own.set_ne (h5.own.aside (by simp; omega)) _).set_ne (h5.own.aside (by simp; omega)) _).weaken (by simp; omega)
  · rintro x H' hx (⟨rfl, ov, h5, h6⟩ | ⟨rfl, h2, h3, h4, h5⟩)
    · have b2 := h5.keeps.get k2 (by omega)
      have b3 := h5.keeps.get k3 (by omega)
      have xH' := h5.keeps.ext xH3 (by omega)
      have hov : ov.cells = ⟨[ov]⟩ := by rcases h5.own.ints.2 with ⟨rfl, _⟩ | ⟨id, off, c, rfl, _⟩ <;> rfl
      have b3' : (H'.set (H.length + 2) (.cells true 0 [ov]))[H.length + 3]? = some (.cells true 0 [.int .i64 0]) := by rw [List.getElem?_set_ne (by omega)]; exact b3
      rw [h6]
      ((repeat (first | refine ya (by (with_reducible constructor) <;> first | rfl | decide) ?_ | apply yb | refine yc rfl ?_ | ((first | apply yd | apply ye); simp (disch := first | exact List.all_nil | omega | (simp only [go_sem]; done) | (simp only [ln, List.length_map]; omega) | (repeat' first | assumption | exact Ext.refl _ | refine Ext.app ?_ _)) only [go_sem, load_at h5.box, store_b1 b2 h5.own.ints.atom hov, store_b1 b3' (y := .int .i64 0) rfl rfl]; with_reducible rfl))))
      refine fin_2l (u := ov) (w := .int .i64 0) (load1 (by rw [List.getElem?_set_ne (by omega)]; exact get_set_self b2)) (load1 (get_set_self b3')) ⟨ov, rfl, (xH'.set (by omega) _).set (by omega) _, ?_⟩
      exact ((h5.own.set_ne (h5.own.aside (by simp; omega)) _).set_ne (h5.own.aside (by simp; omega)) _).weaken (by simp; omega)
    · rw [h2]
      ((repeat (first | refine ya (by (with_reducible constructor) <;> first | rfl | decide) ?_ | apply yb | refine yc rfl ?_ | ((first | apply yd | apply ye); simp (disch := first | exact List.all_nil | omega | (simp only [go_sem]; done) | (simp only [ln, List.length_map]; omega) | (repeat' first | assumption | exact Ext.refl _ | refine Ext.app ?_ _)) only [go_sem]; with_reducible rfl))))
      refine fin_2l (u := .slice none 0 0) (w := .int .i64 8) (load1 h3) (load1 h4) ⟨_, rfl, h5, OwnI.nil _ _⟩
end
end Go.Lq

namespace Go.Lq
open Go
open Go.Proofs

def outF (kind num den step : Int) (l : List (Int × Int)) : Nat → Int := if kind = 0 then ratioF num den else curveF l step
def outC (kind step : Int) (l : List (Int × Int)) : Nat := if kind = 0 then 2001 else curveN l step
def outsR (kind num den step : Int) (l : List (Int × Int)) (count : Int) : List Int × Int := outsL (outF kind num den step l) (outC kind step l) count
theorem rules_ratio {kind deg num den step : Int} {l : List (Int × Int)} (h : rulesErrL kind deg num den step l = 0) (h0 : kind = 0) : (1 ≤ num ∧ num ≤ 1000) ∧ (1 ≤ den ∧ den ≤ 1000) ∧ (deg = 1 ∨ deg = 3) := by
  unfold rulesErrL at h
  by_cases hk : 0 ≤ kind ∧ kind ≤ 1
  · rw [if_pos hk] at h
    by_cases hd : degErrL deg = 0
    · rw [if_pos hd, if_pos h0] at h
      unfold ratioErrL at h
      by_cases hn : (1 ≤ num ∧ num ≤ 1000) ∧ (1 ≤ den ∧ den ≤ 1000)
      · exact ⟨hn.1, hn.2, degErr_ok hd⟩
      · rw [if_neg hn] at h; exact absurd h (by simp [firstErr])
    · rw [if_neg hd] at h; exact absurd h hd
  · rw [if_neg hk] at h; exact absurd h (by decide)
theorem rules_curve {kind deg num den step : Int} {l : List (Int × Int)} (h : rulesErrL kind deg num den step l = 0) (h0 : ¬ kind = 0) : MapOk l ∧ (1 ≤ step ∧ step ≤ 1000000000000) ∧ (deg = 1 ∨ deg = 3) := by
  unfold rulesErrL at h
  by_cases hk : 0 ≤ kind ∧ kind ≤ 1
  · rw [if_pos hk] at h
    by_cases hd : degErrL deg = 0
    · rw [if_pos hd, if_neg h0] at h
      unfold curveErrL at h
      by_cases hm : mapErrL l = 0
      · rw [hm, firstErr_z] at h
        by_cases hs : 1 ≤ step ∧ step ≤ 1000000000000
        · exact ⟨mapErr_ok hm, hs, degErr_ok hd⟩
        · rw [if_neg hs] at h; exact absurd h (by simp [firstErr])
      · rw [firstErr_e hm] at h; exact absurd h hm
    · rw [if_neg hd] at h; exact absurd h hd
  · rw [if_neg hk] at h; exact absurd h (by decide)

section
variable {H : AHeap} {kind deg num den step : Int} {l : List (Int × Int)} {v : Value}
theorem outputs_c {count : Int} (hl : Pairs H l v) (he : rulesErrL kind deg num den step l = 0) (hcnt : 0 ≤ count ∧ count ≤ 400) : ACall Go.Proofs.Tryd.prog 90 [rulesV kind deg num den step v, .int .i64 count] H
    (IntsRes H (outsR kind num den step l count).1 (outsR kind num den step l count).2) := by
  by_cases h0 : kind = 0
  · obtain ⟨h1, h2, _⟩ := rules_ratio he h0
    have e : outsR kind num den step l count = outsL (ratioF num den) 2001 count := by unfold outsR outF outC; rw [if_pos h0, if_pos h0]
    rw [e]
    exact outputsR_c hl h0 h1 h2 hcnt
  · obtain ⟨h1, h2, _⟩ := rules_curve he h0
    have e : outsR kind num den step l count = outsL (curveF l step) (curveN l step) count := by unfold outsR outF outC; rw [if_neg h0, if_neg h0]
    rw [e]
    exact outputsC_c hl h0 h1 h2 hcnt
end
end Go.Lq

namespace Go.Lq
open Go
open Go.Proofs

section
variable {H : AHeap} {kind deg num den step : Int} {l : List (Int × Int)} {v : Value}
theorem rFirst_c (hl : Pairs H l v) (h0 : 0 < l.length) : ACall Go.Proofs.Tryd.prog 49 [.agg ⟨[v]⟩] H fun w H' => w = .agg ⟨[.int .i64 (l.getD 0 (0, 0)).1, .int .i64 (l.getD 0 (0, 0)).2]⟩ ∧ H' = H := by
  refine ACall.drop (closed_frac ((l.getD 0 (0, 0)).1, (l.getD 0 (0, 0)).2)) ?_
  (refine a49 ?_; simp only [n49, List.replicate, List.length_cons, List.length_nil, List.cons_append, List.nil_append]; first | refine q1 ?_ | refine q2 ?_ | refine q6 ?_ | refine q7 ?_ | refine qh rfl ?_ | skip)
  obtain ⟨G, hG⟩ : ∃ G, G = H ++ [AObj.cells true 0 [v]] ++ [AObj.cells true 0 [.int .i64 0, .int .i64 0]] := ⟨_, rfl⟩
  have g0 : G[H.length]? = some (.cells true 0 [v]) := by rw [hG]; simp
  have g2 : G[H.length + 1]? = some (.cells true 0 [.int .i64 0, .int .i64 0]) := by rw [hG]; simp
  have xG : Ext H G := by rw [hG]; exact ((Ext.refl H).app _).app _
  (repeat (first | refine ya (by (with_reducible constructor) <;> first | rfl | decide) ?_ | (apply yd; simp (disch := first | exact List.all_nil | omega | (simp only [go_sem]; done) | (simp only [ln, List.length_map]; omega) | (repeat' first | assumption | exact Ext.refl _ | refine Ext.app ?_ _)) only [go_sem, hl.box1]; with_reducible rfl)))
  (simp only [List.length_append, List.length_cons, List.length_nil, Nat.zero_add, Nat.add_assoc, Nat.reduceAdd])
  rw [← hG]
  clear hG
  have hl1 := hl.ext xG
  have e0 : (0 : Int) = ((0 : Nat) : Int) := rfl
  ((repeat (first | refine ya (by (with_reducible constructor) <;> first | rfl | decide) ?_ | apply yb | refine yc rfl ?_ | ((first | apply yd | apply ye); simp (disch := first | exact List.all_nil | omega | (simp only [go_sem]; done) | (simp only [ln, List.length_map]; omega) | (repeat' first | assumption | exact Ext.refl _ | refine Ext.app ?_ _)) only [go_sem, hl1.len, hl1.idx, hl1.load, load_at g0, store_b2 g2]; with_reducible rfl))))
  refine fin_l1 (u := .agg ⟨[.int .i64 (l.getD 0 (0, 0)).1, .int .i64 (l.getD 0 (0, 0)).2]⟩) (loadN_at (k := 0) (get_set_self g2) (by simp)) ⟨rfl, xG.set (by omega) _⟩
theorem rLast_c (hl : Pairs H l v) (h0 : 0 < l.length) (hb : l.length ≤ 1000000) : ACall Go.Proofs.Tryd.prog 50 [.agg ⟨[v]⟩] H fun w H' => w = .agg ⟨[.int .i64 (l.getD (l.length - 1) (0, 0)).1, .int .i64 (l.getD (l.length - 1) (0, 0)).2]⟩ ∧ H' = H := by
  refine ACall.drop (closed_frac ((l.getD (l.length - 1) (0, 0)).1, (l.getD (l.length - 1) (0, 0)).2)) ?_
  (refine a50 ?_; simp only [n50, List.replicate, List.length_cons, List.length_nil, List.cons_append, List.nil_append]; first | refine q1 ?_ | refine q2 ?_ | refine q6 ?_ | refine q7 ?_ | refine qh rfl ?_ | skip)
  obtain ⟨G, hG⟩ : ∃ G, G = H ++ [AObj.cells true 0 [v]] ++ [AObj.cells true 0 [.int .i64 0, .int .i64 0]] := ⟨_, rfl⟩
  have g0 : G[H.length]? = some (.cells true 0 [v]) := by rw [hG]; simp
  have g2 : G[H.length + 1]? = some (.cells true 0 [.int .i64 0, .int .i64 0]) := by rw [hG]; simp
  have xG : Ext H G := by rw [hG]; exact ((Ext.refl H).app _).app _
  (repeat (first | refine ya (by (with_reducible constructor) <;> first | rfl | decide) ?_ | (apply yd; simp (disch := first | exact List.all_nil | omega | (simp only [go_sem]; done) | (simp only [ln, List.length_map]; omega) | (repeat' first | assumption | exact Ext.refl _ | refine Ext.app ?_ _)) only [go_sem, hl.box1]; with_reducible rfl)))
  (simp only [List.length_append, List.length_cons, List.length_nil, Nat.zero_add, Nat.add_assoc, Nat.reduceAdd])
  rw [← hG]
  clear hG
  have hl1 := hl.ext xG
  have el : (l.length : Int) - 1 = ((l.length - 1 : Nat) : Int) := by omega
  ((repeat (first | refine ya (by (with_reducible constructor) <;> first | rfl | decide) ?_ | apply yb | refine yc rfl ?_ | ((first | apply yd | apply ye); simp (disch := first | exact List.all_nil | omega | (simp only [go_sem]; done) | (simp only [ln, List.length_map]; omega) | (repeat' first | assumption | exact Ext.refl _ | refine Ext.app ?_ _)) only [go_sem, hl1.len, hl1.idx, hl1.load, load_at g0, el, store_b2 g2]; with_reducible rfl))))
  refine fin_l1 (u := .agg ⟨[.int .i64 (l.getD (l.length - 1) (0, 0)).1, .int .i64 (l.getD (l.length - 1) (0, 0)).2]⟩) (loadN_at (k := 0) (get_set_self g2) (by simp)) ⟨rfl, xG.set (by omega) _⟩

end
end Go.Lq

namespace Go.Lq
open Go
open Go.Proofs

def yL (deg : Int) (x : List Int) (q : Int) : Int := min (max ((2 * valueL deg x q + denL deg) / (2 * denL deg)) (-32767)) 32767
def midL (qs : List Int) (y : Int → Int) (i : Nat) : List Int := (qs.take i).map y ++ qs.drop i
theorem midL_len {qs : List Int} {y : Int → Int} {i : Nat} : (midL qs y i).length = qs.length := by
  unfold midL; simp; omega
theorem midL_zero {qs : List Int} {y : Int → Int} : midL qs y 0 = qs := by simp [midL]
theorem midL_all {qs : List Int} {y : Int → Int} : midL qs y qs.length = qs.map y := by simp [midL]
theorem midL_getD {qs : List Int} {y : Int → Int} {i : Nat} (h : i < qs.length) : (midL qs y i).getD i 0 = qs.getD i 0 := by
  unfold midL
  rw [List.getD_eq_getElem?_getD, List.getElem?_append_right (by simp; omega), List.getD_eq_getElem?_getD, List.getElem?_drop]
  have : i + (i - ((qs.take i).map y).length) = i := by simp; omega
  rw [this]
theorem midL_set {qs : List Int} {y : Int → Int} {i : Nat} (h : i < qs.length) : (midL qs y i).set i (y (qs.getD i 0)) = midL qs y (i + 1) := by
  have hl : ((qs.take i).map y).length = i := by simp; omega
  unfold midL
  rw [List.set_append_right _ _ (by omega), hl, Nat.sub_self, List.drop_eq_getElem_cons h, List.set_cons_zero]
  rw [List.take_add_one, List.getElem?_eq_getElem h, List.map_append, List.getD_eq_getElem?_getD, List.getElem?_eq_getElem h]
  simp
theorem outN_bound {f : Nat → Int} {B : Int} : ∀ {n k j : Nat}, k ≤ j → j < (outN f B k n).1 → f j ≤ B ∧ j < k + n
  | 0, k, j, h1, h2 => by have : j < k := h2; omega
  | n + 1, k, j, h1, h2 => by
    rw [outN_succ] at h2
    by_cases hq : B < f k
    · rw [if_pos hq] at h2
      have : j < k := h2
      omega
    · rw [if_neg hq] at h2
      by_cases hk : k = 2000
      · rw [if_pos hk] at h2
        have : j < 0 := h2
        omega
      · rw [if_neg hk] at h2
        by_cases e : j = k
        · subst e; exact ⟨by omega, by omega⟩
        · have := outN_bound (n := n) (k := k + 1) (j := j) (by omega) h2
          exact ⟨this.1, by omega⟩
theorem posLo_nn {p : (Int × Int) × (Int × Int)} {t : Int} (h1 : 0 ≤ p.1.1) (h2 : p.1.1 ≤ p.2.1) (h3 : p.1.2 < p.2.2) (h4 : p.1.2 ≤ t) : 0 ≤ posLo p t := by
  unfold posLo posN
  have := Int.ediv_nonneg (Int.mul_nonneg (show 0 ≤ t - p.1.2 by omega) (show 0 ≤ 64 * (p.2.1 - p.1.1) by omega)) (show 0 ≤ p.2.2 - p.1.2 by omega)
  omega
theorem atTime_in {l : List (Int × Int)} {t : Int} : ∀ {k i : Nat}, i + k + 1 < l.length → (l.getD i (0, 0)).2 ≤ t → atTime l t i k + 1 < l.length ∧ (l.getD (atTime l t i k) (0, 0)).2 ≤ t
  | 0, i, h, h2 => ⟨by show i + 1 < _; omega, h2⟩
  | k + 1, i, h, h2 => by
    rw [atTime_succ]
    split
    · exact atTime_in (by omega) (by omega)
    · exact ⟨by omega, h2⟩
theorem outs_in {kind deg num den step count : Int} {l : List (Int × Int)} (he : rulesErrL kind deg num den step l = 0) (i : Nat) (hi : i < (outsR kind num den step l count).1.length) :
    0 ≤ (outsR kind num den step l count).1.getD i 0 ∧ (outsR kind num den step l count).1.getD i 0 ≤ 64 * (count - 1) := by
  unfold outsR outsL at hi ⊢
  rw [outTo_len] at hi
  have hb := outN_bound (Nat.zero_le i) hi
  have e : (outTo (outF kind num den step l) (outN (outF kind num den step l) (64 * (count - 1)) 0 (outC kind step l)).1).getD i 0 = outF kind num den step l i := by
    unfold outTo
    rw [List.getD_eq_getElem?_getD, List.getElem?_map, List.getElem?_range hi]; rfl
  rw [e]
  refine ⟨?_, hb.1⟩
  unfold outF
  by_cases h0 : kind = 0
  · obtain ⟨h1, h2, _⟩ := rules_ratio he h0
    rw [if_pos h0]
    exact Int.ediv_nonneg (Int.mul_nonneg (by omega) (by omega)) (by omega)
  · obtain ⟨hok, hs, _⟩ := rules_curve he h0
    rw [if_neg h0]
    have hN : i < curveN l step := by have := hb.2; unfold outC at this; rw [if_neg h0] at this; omega
    rw [curveF_eq hok (by omega) hN]
    have hlo := hok.lo
    have ht := Int.mul_nonneg (show (0 : Int) ≤ i by omega) (show 0 ≤ step by omega)
    obtain ⟨a1, a2⟩ := atTime_in (l := l) (t := t0L l + i * step) (k := l.length - 2) (i := 0) (by omega) (show t0L l ≤ _ by omega)
    have p1 := hok.pos _ (show atTime l (t0L l + i * step) 0 (l.length - 2) < l.length by omega)
    have p2 := hok.posUp _ a1
    have p3 := hok.timeUp _ a1
    exact posLo_nn p1.1 (Int.le_of_lt p2) p3 a2
end Go.Lq

namespace Go.Lq
open Go
open Go.Proofs

theorem cells3 : Tryd.prog.cellsOf 3 = 1 := by kernel_rfl
set_option maxRecDepth 100000 in
theorem repMap {H : AHeap} {s : Value} (h : Rep Tryd.prog H 24 [s]) : ∃ l, Pairs H l s ∧ l.length ≤ maxLen := by
  obtain ⟨_, hf⟩ := h.struct_inv Tryd.underlying24
  have h0 : Rep Tryd.prog H 22 (([s].drop 0).take (Tryd.prog.cellsOf 22)) := hf 0 _ rfl
  rw [show Tryd.prog.cellsOf 22 = 1 by kernel_rfl] at h0
  have h1 : Rep Tryd.prog H 22 [s] := h0
  obtain ⟨l, h2, h3, _⟩ := (RepA.of_slice Tryd.underlying22 h1).pairs Tryd.underlying22 Tryd.underlying72 (by kernel_rfl) rfl rfl rfl rfl Tryd.underlying3 Tryd.underlying3 cells3 cells3
  exact ⟨l, h2, h3⟩
theorem outN_two {f : Nat → Int} {B : Int} : ∀ {n k : Nat}, k ≤ 2000 → ((outN f B k n).2 = 0 ∧ (outN f B k n).1 ≤ k + n) ∨ outN f B k n = (0, 8)
  | 0, k, _ => .inl ⟨rfl, Nat.le_refl _⟩
  | n + 1, k, hk => by
    rw [outN_succ]
    split
    · exact .inl ⟨rfl, by show k ≤ _; omega⟩
    · split
      · exact .inr rfl
      · rcases outN_two (f := f) (B := B) (n := n) (k := k + 1) (by omega) with ⟨h1, h2⟩ | h
        · exact .inl ⟨h1, by omega⟩
        · exact .inr h
theorem outN_le {f : Nat → Int} {B : Int} : ∀ {n k : Nat}, k ≤ 2000 → (outN f B k n).1 ≤ 2000
  | 0, k, h => h
  | n + 1, k, hk => by
    rw [outN_succ]
    split
    · exact hk
    · split
      · exact Nat.zero_le _
      · exact outN_le (by omega)
theorem outs_two (kind num den step count : Int) (l : List (Int × Int)) : (outsR kind num den step l count).1.length ≤ 2000 ∧ ((outsR kind num den step l count).2 = 0 ∨ outsR kind num den step l count = ([], 8)) := by
  unfold outsR outsL
  refine ⟨by rw [outTo_len]; exact outN_le (Nat.zero_le _), ?_⟩
  rcases outN_two (f := outF kind num den step l) (B := 64 * (count - 1)) (n := outC kind step l) (k := 0) (by omega) with ⟨h1, _⟩ | h
  · exact .inl h1
  · exact .inr (by rw [h]; rfl)
end Go.Lq

namespace Go.Lq
open Go
open Go.Proofs

def resErrL (kind deg num den step : Int) (l : List (Int × Int)) (x : List Int) : Int := firstErr [rulesErrL kind deg num den step l, signalErrL x]
def resL (kind deg num den step : Int) (l : List (Int × Int)) (x : List Int) : List Int × Int :=
  if resErrL kind deg num den step l x = 0 then
    (if (outsR kind num den step l x.length).2 = 0 then ((outsR kind num den step l x.length).1.map (yL deg x), 0) else ([], (outsR kind num den step l x.length).2))
  else ([], resErrL kind deg num den step l x)
theorem resErr_ok {kind deg num den step : Int} {l : List (Int × Int)} {x : List Int} (h : resErrL kind deg num den step l x = 0) : rulesErrL kind deg num den step l = 0 ∧ signalErrL x = 0 := by
  unfold resErrL at h
  by_cases h1 : rulesErrL kind deg num den step l = 0
  · refine ⟨h1, ?_⟩
    rw [h1, firstErr_z] at h
    refine Decidable.byContradiction fun hn => ?_
    rw [firstErr_e hn] at h; exact hn h
  · rw [firstErr_e h1] at h; exact absurd h h1
theorem rules_deg {kind deg num den step : Int} {l : List (Int × Int)} (h : rulesErrL kind deg num den step l = 0) : deg = 1 ∨ deg = 3 := by
  by_cases h0 : kind = 0
  · exact (rules_ratio h h0).2.2
  · exact (rules_curve h h0).2.2
def kernH (G : AHeap) (m : List Int) (deg : Int) : AHeap := G ++ [.cells true 1 (m.map (.int .i64))] ++ [.cells true 0 (kern deg)]
section
variable {G : AHeap} {m : List Int} {deg : Int}
theorem kernH_s : (kernH G m deg)[G.length]? = some (.cells true 1 (m.map (.int .i64))) := by simp [kernH]
theorem kernH_k : (kernH G m deg)[G.length + 1]? = some (.cells true 0 (kern deg)) := by simp [kernH]
theorem kernH_x : Ext G (kernH G m deg) := ((Ext.refl G).app _).app _
theorem kernH_set {i : Nat} {x : Int} : (kernH G m deg).set G.length (.cells true 1 ((m.set i x).map (.int .i64))) = kernH G (m.set i x) deg := set_in
theorem kernH_ints {n : Nat} (h : m.length = n) : Ints (kernH G m deg) m (.slice (some ⟨G.length, 0, none⟩) n n) := by
  subst h
  exact ints_first (b := true) (r := []) (by rw [List.append_nil]; exact kernH_s)
theorem den_bound (deg : Int) : 0 < denL deg ∧ denL deg ≤ 1572864 := by unfold denL; split <;> omega
end

section
variable {H : AHeap} {kind deg num den step : Int} {l : List (Int × Int)} {v w : Value} {x : List Int}
set_option maxHeartbeats 8000000 in
theorem resampled_c (hx : Ext H0 H) (hl : Pairs H l v) (hb : l.length ≤ 1000000000) (hX : Ints H x w) (hxl : x.length ≤ 1000000000) : ACall Go.Proofs.Tryd.prog 23 [rulesV kind deg num den step v, w] H
    (IntsRes H (resL kind deg num den step l x).1 (resL kind deg num den step l x).2) := by
  refine ACall.intsE ?_
  (refine a23 ?_; simp only [n23, List.replicate, List.length_cons, List.length_nil, List.cons_append, List.nil_append]; first | refine q1 ?_ | refine q2 ?_ | refine q6 ?_ | refine q7 ?_ | refine qh rfl ?_ | skip)
  have g0 : (H ++ [AObj.cells true 0 (rulesC kind deg num den step v)])[H.length]? = some (.cells true 0 (rulesC kind deg num den step v)) := at_new
  have xG : Ext H (H ++ [AObj.cells true 0 (rulesC kind deg num den step v)]) := (Ext.refl H).app _
  have l6 : loadNR 6 (.pointer (some ⟨H.length, 0, none⟩)) (H ++ [AObj.cells true 0 (rulesC kind deg num den step v)]) = some (rulesV kind deg num den step v, H ++ [AObj.cells true 0 (rulesC kind deg num den step v)]) := loadN_at g0 (by simp [rulesC])
  ((repeat (first | refine ya (by (with_reducible constructor) <;> first | rfl | decide) ?_ | apply yb | refine yc rfl ?_ | ((first | apply yd | apply ye); simp (disch := first | exact List.all_nil | omega | (simp only [go_sem]; done) | (simp only [ln, List.length_map]; omega) | (repeat' first | assumption | exact Ext.refl _ | refine Ext.app ?_ _)) only [go_sem, box_rules hl.atom, l6]; with_reducible rfl))))
  generalize (H ++ [AObj.cells true 0 (rulesC kind deg num den step v)] : AHeap) = G at g0 xG l6
  refine aops_call_to (checkRules_c (hl.ext xG) hb) ?_
  ((repeat (first | refine ya (by (with_reducible constructor) <;> first | rfl | decide) ?_ | apply yb | refine yc rfl ?_ | ((first | apply yd | apply ye); simp (disch := first | exact List.all_nil | omega | (simp only [go_sem]; done) | (simp only [ln, List.length_map]; omega) | (repeat' first | assumption | exact Ext.refl _ | refine Ext.app ?_ _)) only [go_sem]; with_reducible rfl))))
  refine aops_call_to (signalErr_c (hX.ext xG) hxl) ?_
  ((repeat (first | refine ya (by (with_reducible constructor) <;> first | rfl | decide) ?_ | apply yb | refine yc rfl ?_ | ((first | apply yd | apply ye); simp (disch := first | exact List.all_nil | omega | (simp only [go_sem]; done) | (simp only [ln, List.length_map]; omega) | (repeat' first | assumption | exact Ext.refl _ | refine Ext.app ?_ _)) only [go_sem]; with_reducible rfl))))
  refine aops_call_to (first_c (l := [_, _]) (Ints.last (l := [_, _]) 2) (by simp)) ?_
  have he : firstErr [rulesErrL kind deg num den step l, signalErrL x] = resErrL kind deg num den step l x := rfl
  rw [he]
  have x2 : Ext G (G ++ [AObj.cells true 1 [.int .i64 (rulesErrL kind deg num den step l), .int .i64 (signalErrL x)]]) := (Ext.refl G).app _
  generalize (G ++ [AObj.cells true 1 [.int .i64 (rulesErrL kind deg num den step l), .int .i64 (signalErrL x)]] : AHeap) = G2 at x2
  have xH2 := xG.trans x2
  have k0 := x2.cell g0
  have k6 : loadNR 6 (.pointer (some ⟨H.length, 0, none⟩)) G2 = some (rulesV kind deg num den step v, G2) := loadN_at k0 (by simp [rulesC])
  ((repeat (first | refine ya (by (with_reducible constructor) <;> first | rfl | decide) ?_ | apply yb | refine yc rfl ?_ | ((first | apply yd | apply ye); simp (disch := first | exact List.all_nil | omega | (simp only [go_sem]; done) | (simp only [ln, List.length_map]; omega) | (repeat' first | assumption | exact Ext.refl _ | refine Ext.app ?_ _)) only [go_sem]; with_reducible rfl))))
  refine cond_p rfl (fun hne => ?_) (fun heq => ?_)
  · have ev : resL kind deg num den step l x = ([], resErrL kind deg num den step l x) := by unfold resL; rw [if_neg hne]
    rw [ev]
    ((repeat (first | refine ya (by (with_reducible constructor) <;> first | rfl | decide) ?_ | apply yb | refine yc rfl ?_ | ((first | apply yd | apply ye); simp (disch := first | exact List.all_nil | omega | (simp only [go_sem]; done) | (simp only [ln, List.length_map]; omega) | (repeat' first | assumption | exact Ext.refl _ | refine Ext.app ?_ _)) only [go_sem]; with_reducible rfl))))
    exact fin_2 ⟨_, rfl, xH2, OwnI.nil _ _⟩
  have hz := Decidable.not_not.1 heq
  obtain ⟨hr, hs⟩ := resErr_ok hz
  have hd := rules_deg hr
  obtain ⟨s1, s2⟩ := signalErr_ok hs
  have hX2 := hX.ext xH2
  ((repeat (first | refine ya (by (with_reducible constructor) <;> first | rfl | decide) ?_ | apply yb | refine yc rfl ?_ | ((first | apply yd | apply ye); simp (disch := first | exact List.all_nil | omega | (simp only [go_sem]; done) | (simp only [ln, List.length_map]; omega) | (repeat' first | assumption | exact Ext.refl _ | refine Ext.app ?_ _)) only [go_sem, hX2.len, hX2.idx, hX2.load, k6]; with_reducible rfl))))
  refine aops_call ((outputs_c (count := (x.length : Int)) (hl.ext xH2) hr ⟨by omega, by omega⟩).mono fun u G3 hu => ?_)
  obtain ⟨rfl, rfl⟩ := hu
  obtain ⟨ol, otw⟩ := outs_two kind num den step (x.length : Int) l
  have hin := outs_in (count := (x.length : Int)) hr
  have ev : resL kind deg num den step l x = if (outsR kind num den step l x.length).2 = 0 then ((outsR kind num den step l x.length).1.map (yL deg x), 0) else ([], (outsR kind num den step l x.length).2) := by unfold resL; rw [if_pos hz]
  rw [ev]
  rcases otw with h0 | h8
  rotate_left 1
  · rw [h8]
    ((repeat (first | refine ya (by (with_reducible constructor) <;> first | rfl | decide) ?_ | apply yb | refine yc rfl ?_ | ((first | apply yd | apply ye); simp (disch := first | exact List.all_nil | omega | (simp only [go_sem]; done) | (simp only [ln, List.length_map]; omega) | (repeat' first | assumption | exact Ext.refl _ | refine Ext.app ?_ _)) only [go_sem]; with_reducible rfl))))
    refine cond_t rfl ?_
    ((repeat (first | refine ya (by (with_reducible constructor) <;> first | rfl | decide) ?_ | apply yb | refine yc rfl ?_ | ((first | apply yd | apply ye); simp (disch := first | exact List.all_nil | omega | (simp only [go_sem]; done) | (simp only [ln, List.length_map]; omega) | (repeat' first | assumption | exact Ext.refl _ | refine Ext.app ?_ _)) only [go_sem]; with_reducible rfl))))
    exact fin_2 ⟨_, rfl, xH2.app _, OwnI.nil _ _⟩
  rw [h0, if_pos rfl]
  generalize (outsR kind num den step l x.length).1 = qs at ol hin ⊢
  ((repeat (first | refine ya (by (with_reducible constructor) <;> first | rfl | decide) ?_ | apply yb | refine yc rfl ?_ | ((first | apply yd | apply ye); simp (disch := first | exact List.all_nil | omega | (simp only [go_sem]; done) | (simp only [ln, List.length_map]; omega) | (repeat' first | assumption | exact Ext.refl _ | refine Ext.app ?_ _)) only [go_sem]; with_reducible rfl))))
  refine cond_f rfl ?_
  have xG3 : Ext G2 (G2 ++ retN 1 qs.length (qs.map (.int .i64))) := ⟨_, rfl⟩
  have hx3 := (hx.trans xH2).trans xG3
  have n0 := xG3.cell k0
  have hdg : loadR (.pointer (some ⟨H.length, 1, none⟩)) (G2 ++ retN 1 qs.length (qs.map (.int .i64))) = some (.int .i64 deg, G2 ++ retN 1 qs.length (qs.map (.int .i64))) := by rw [load_at n0]; rfl
  have hR : Ints (G2 ++ retN 1 qs.length (qs.map (.int .i64)) ++ [AObj.cells true 0 (kern deg)]) qs (retV G2 qs.length) := Ints.ret.ext ((Ext.refl _).app _)
  ((repeat (first | refine ya (by (with_reducible constructor) <;> first | rfl | decide) ?_ | apply yb | refine yc rfl ?_ | ((first | apply yd | apply ye); simp (disch := first | exact List.all_nil | omega | (simp only [go_sem]; done) | (simp only [ln, List.length_map]; omega) | (repeat' first | assumption | exact Ext.refl _ | refine Ext.app ?_ _)) only [go_sem, hR.len, hR.idx, hR.load, hdg, kern_idx hd, kern_load hx3 hd, store_kern]; with_reducible rfl))))
  by_cases hn : qs.length = 0
  · have hq0 : qs = [] := List.length_eq_zero_iff.1 hn
    subst hq0
    refine awp_loop_n [false, false, false, false, false, false, false, true, false, false, false, false, false, false, false, false, false, false, false, false, false, false, false, false, false, false, false, false, false, false, false, false, false, false, false, false, true, true, true, false, false, false, false, false, false, false, false, false, false, false, false, false, false, false, false, false, false, false, false, false, false, false, false] 0 (fun i e H' => H' = G2 ++ retN 1 0 [] ++ [AObj.cells true 0 (kern deg)] ∧ e = [junk, junk, junk, junk, junk, junk, junk, retV G2 0, junk, junk, junk, junk, junk, junk, junk, junk, junk, junk, junk, junk, junk, junk, junk, junk, junk, junk, junk, junk, junk, junk, junk, junk, junk, junk, junk, junk, retV G2 0, .int .i64 ((0 : Nat) : Int), .int .i64 i, junk, junk, junk, junk, junk, junk, junk, junk, junk, junk, junk, junk, junk, junk, junk, junk, junk, junk, junk, junk, junk, junk, junk, junk]) ?_ ?_
    · exact ⟨rfl, by simp [forget]⟩
    rintro i e H' hi ⟨rfl, rfl⟩
    obtain rfl : i = 0 := by omega
    ((repeat (first | refine ya (by (with_reducible constructor) <;> first | rfl | decide) ?_ | apply yb | refine yc rfl ?_ | ((first | apply yd | apply ye); simp (disch := first | exact List.all_nil | omega | (simp only [go_sem]; done) | (simp only [ln, List.length_map]; omega) | (repeat' first | assumption | exact Ext.refl _ | refine Ext.app ?_ _)) only [go_sem, dec_f (show ¬ ((0 : Nat) : Int) < ((0 : Nat) : Int) by decide)]; with_reducible rfl))))
    refine cond_f rfl ?_
    ((repeat (first | refine ya (by (with_reducible constructor) <;> first | rfl | decide) ?_ | apply yb | refine yc rfl ?_ | ((first | apply yd | apply ye); simp (disch := first | exact List.all_nil | omega | (simp only [go_sem]; done) | (simp only [ln, List.length_map]; omega) | (repeat' first | assumption | exact Ext.refl _ | refine Ext.app ?_ _)) only [go_sem]; with_reducible rfl))))
    exact fin_2 ⟨_, rfl, (xH2.app _).app _, OwnI.nil _ _⟩
  have erV : retV G2 qs.length = .slice (some ⟨G2.length, 0, none⟩) qs.length qs.length := by unfold retV; rw [if_neg hn]
  have erN : G2 ++ retN 1 qs.length (qs.map (.int .i64)) ++ [AObj.cells true 0 (kern deg)] = kernH G2 qs deg := by unfold retN kernH; rw [if_neg hn]
  have erL : (G2 ++ retN 1 qs.length (qs.map (.int .i64))).length = G2.length + 1 := by unfold retN; rw [if_neg hn]; simp
  rw [erN, erL, erV]
  obtain ⟨n, hnn⟩ : ∃ n, qs.length = n := ⟨_, rfl⟩
  rw [hnn]
  refine awp_loop_n [false, true, false, false, false, false, false, true, false, true, false, false, false, false, false, false, false, false, false, false, false, false, false, false, false, false, false, false, false, false, false, false, false, false, false, false, true, true, true, false, false, false, false, false, false, false, false, false, false, false, false, false, false, false, false, false, false, false, false, false, false, false, false] n (fun i e H' => H' = kernH G2 (midL qs (yL deg x) i) deg ∧ e = [junk, w, junk, junk, junk, junk, junk, .slice (some ⟨G2.length, 0, none⟩) n n, junk, .pointer (some ⟨G2.length + 1, 0, none⟩), junk, junk, junk, junk, junk, junk, junk, junk, junk, junk, junk, junk, junk, junk, junk, junk, junk, junk, junk, junk, junk, junk, junk, junk, junk, junk, .slice (some ⟨G2.length, 0, none⟩) n n, .int .i64 n, .int .i64 i, junk, junk, junk, junk, junk, junk, junk, junk, junk, junk, junk, junk, junk, junk, junk, junk, junk, junk, junk, junk, junk, junk, junk, junk]) ?_ ?_
  · exact ⟨by rw [midL_zero], by simp [forget]⟩
  rintro i e H' hi ⟨rfl, rfl⟩
  have hml : (midL qs (yL deg x) i).length = n := by rw [midL_len, hnn]
  have ho := kernH_ints (G := G2) (deg := deg) hml
  have hXm := hX2.ext (kernH_x (G := G2) (m := midL qs (yL deg x) i) (deg := deg))
  ((repeat (first | refine ya (by (with_reducible constructor) <;> first | rfl | decide) ?_ | apply yb | refine yc rfl ?_ | ((first | apply yd | apply ye); simp (disch := first | exact List.all_nil | omega | (simp only [go_sem]; done) | (simp only [ln, List.length_map]; omega) | (repeat' first | assumption | exact Ext.refl _ | refine Ext.app ?_ _)) only [go_sem]; with_reducible rfl))))
  refine cond_p rfl (fun hlt => ?_) (fun hge => ?_)
  · have hi' : i < qs.length := by omega
    have hq := hin i hi'
    have eg := midL_getD (y := yL deg x) hi'
    have vb := value_bound (q := qs.getD i 0) hd s2 hq.1
    have db := den_bound deg
    have kk := kernH_k (G := G2) (m := midL qs (yL deg x) i) (deg := deg)
    have fb := ediv_bound (n := 2 * valueL deg x (qs.getD i 0) + denL deg) (b := 2 * denL deg) (m := 4000000000000000000) (by omega) ⟨by omega, by omega⟩
    have hst := store_cellI (n := n) (c := n) (i := i) (kernH_s (G := G2) (m := midL qs (yL deg x) i) (deg := deg)) (by omega) (yL deg x (qs.getD i 0))
    rw [kernH_set, midL_set hi'] at hst
    have ey : min (max ((2 * valueL deg x (qs.getD i 0) + denL deg) / (2 * denL deg)) (-32767)) 32767 = yL deg x (qs.getD i 0) := rfl
    ((repeat (first | refine ya (by (with_reducible constructor) <;> first | rfl | decide) ?_ | apply yb | refine yc rfl ?_ | ((first | apply yd | apply ye); simp (disch := first | exact List.all_nil | omega | (simp only [go_sem]; done) | (simp only [ln, List.length_map]; omega) | (repeat' first | assumption | exact Ext.refl _ | refine Ext.app ?_ _)) only [go_sem, ho.len, ho.idx, ho.load, eg, kern_all kk]; with_reducible rfl))))
    refine adraw_call (N := []) (firstD (value_c hd hXm s1 s2 hq)) ?_
    rw [List.append_nil]
    ((repeat (first | refine ya (by (with_reducible constructor) <;> first | rfl | decide) ?_ | apply yb | refine yc rfl ?_ | ((first | apply yd | apply ye); simp (disch := first | exact List.all_nil | omega | (simp only [go_sem]; done) | (simp only [ln, List.length_map]; omega) | (repeat' first | assumption | exact Ext.refl _ | refine Ext.app ?_ _)) only [go_sem, kern_den kk]; with_reducible rfl))))
    refine adraw_call (N := []) (firstD (rfloor_c _ _ (by omega) (by omega))) ?_
    rw [List.append_nil]
    ((repeat (first | refine ya (by (with_reducible constructor) <;> first | rfl | decide) ?_ | apply yb | refine yc rfl ?_ | ((first | apply yd | apply ye); simp (disch := first | exact List.all_nil | omega | (simp only [go_sem]; done) | (simp only [ln, List.length_map]; omega) | (repeat' first | assumption | exact Ext.refl _ | refine Ext.app ?_ _)) only [go_sem, ho.len, ho.idx, ho.load, ey, hst]; with_reducible rfl))))
    exact ⟨by omega, rfl, by simp [forget]⟩
  · obtain rfl : i = n := by omega
    ((repeat (first | refine ya (by (with_reducible constructor) <;> first | rfl | decide) ?_ | apply yb | refine yc rfl ?_ | ((first | apply yd | apply ye); simp (disch := first | exact List.all_nil | omega | (simp only [go_sem]; done) | (simp only [ln, List.length_map]; omega) | (repeat' first | assumption | exact Ext.refl _ | refine Ext.app ?_ _)) only [go_sem]; with_reducible rfl))))
    have em : midL qs (yL deg x) i = qs.map (yL deg x) := by rw [← hnn]; exact midL_all
    rw [em]
    refine fin_2 ⟨_, rfl, xH2.trans kernH_x, ?_⟩
    refine ⟨by simp, .inr ⟨G2.length, by simp [hnn], xH2.len, by simp; omega, ?_⟩⟩
    exact kernH_s
end
end Go.Lq

namespace Go.Lq

theorem y_in (deg : Int) (x : List Int) (q : Int) : -32767 ≤ yL deg x q ∧ yL deg x q ≤ 32767 := by unfold yL; omega
end Go.Lq

namespace Go.Lq

theorem atTime_up {l : List (Int × Int)} {t : Int} : ∀ {k i : Nat}, i + k + 2 = l.length → t ≤ (l.getD (l.length - 1) (0, 0)).2 → t ≤ (l.getD (atTime l t i k + 1) (0, 0)).2
  | 0, i, h, ht => by
    show t ≤ (l.getD (i + 1) (0, 0)).2
    rwa [show l.length - 1 = i + 1 by omega] at ht
  | k + 1, i, h, ht => by
    rw [atTime_succ]
    split
    · exact atTime_up (by omega) ht
    · omega
theorem posLo_le {p : (Int × Int) × (Int × Int)} {t : Int} (h1 : p.1.1 ≤ p.2.1) (h3 : p.1.2 < p.2.2) (h5 : t ≤ p.2.2) : posLo p t ≤ 64 * p.2.1 := by
  unfold posLo posN
  have h := Int.ediv_le_ediv (show 0 < p.2.2 - p.1.2 by omega) (Int.mul_le_mul_of_nonneg_right (show t - p.1.2 ≤ p.2.2 - p.1.2 by omega) (show 0 ≤ 64 * (p.2.1 - p.1.1) by omega))
  rw [Int.mul_ediv_cancel_left _ (show p.2.2 - p.1.2 ≠ 0 by omega)] at h
  omega
def besX (x : List Int) (q : Int) (j : Int) : Int := x.getD (clampI x.length (q / 64 + j)) 0
theorem value_1 {x : List Int} {q : Int} : valueL 1 x q = (64 - q % 64) * besX x q 0 + (q % 64) * besX x q 1 := by
  unfold besX
  show 0 + (64 - q % 64) * x.getD (clampI x.length (q / 64 + 0 + ((0 : Nat) : Int))) 0 + (q % 64) * x.getD (clampI x.length (q / 64 + 0 + ((1 : Nat) : Int))) 0 = _
  rw [Int.zero_add, show q / 64 + 0 + ((0 : Nat) : Int) = q / 64 + 0 by omega, show q / 64 + 0 + ((1 : Nat) : Int) = q / 64 + 1 by omega]
end Go.Lq

namespace Go.Lq
open Go
open Go.Proofs

theorem res_z {kind deg num den step : Int} {l : List (Int × Int)} {x : List Int} (h : rulesErrL kind deg num den step l = 0) (hs : signalErrL x = 0) :
    resL kind deg num den step l x = if (outsR kind num den step l x.length).2 = 0 then ((outsR kind num den step l x.length).1.map (yL deg x), 0) else ([], (outsR kind num den step l x.length).2) := by
  have e : resErrL kind deg num den step l x = 0 := by unfold resErrL; rw [h, firstErr_z, hs, firstErr_z]; rfl
  unfold resL; rw [if_pos e]

section
variable {H : AHeap} {kind deg num den step : Int} {l : List (Int × Int)} {v w : Value} {x : List Int}
end
end Go.Lq

namespace Go.Lq

theorem undo_core {D E ta u c f rr rise g0 g1 A0 A1 steep : Int} (hD : 1 ≤ D) (hE : 1 ≤ E) (hf : 0 ≤ f ∧ f ≤ 63) (hr : -64 ≤ rise ∧ rise ≤ 64) (hg0 : D * g0 ≤ E * c ∧ E * c < D * g0 + D) (hg1 : D * g1 ≤ E * c + E ∧ E * c + E < D * g1 + D)
    (hA0 : 64 * A0 ≤ rise * (ta + g0) ∧ rise * (ta + g0) < 64 * A0 + 64) (hA1 : 64 * A1 ≤ rise * (ta + g1) ∧ rise * (ta + g1) < 64 * A1 + 64) (hs : E * (64 * c + f) + rr = D * (64 * u)) (hrr : 0 ≤ rr ∧ rr < E) (hst : A1 - A0 ≤ steep ∧ -(A1 - A0) ≤ steep) :
    64 * ((64 - f) * A0 + f * A1) ≤ 64 * (rise * (ta + u)) + 64 * steep + 4160 ∧ 64 * (rise * (ta + u)) - 64 * steep - 8256 ≤ 64 * ((64 - f) * A0 + f * A1) := by
  obtain ⟨S, hS⟩ : ∃ S, S = (64 - f) * g0 + f * g1 := ⟨_, rfl⟩
  obtain ⟨G, hG⟩ : ∃ G, G = g1 - g0 := ⟨_, rfl⟩
  have k1 := Int.mul_le_mul_of_nonneg_left hg0.1 (show 0 ≤ 64 - f by omega)
  have k2 := Int.mul_le_mul_of_nonneg_left hg1.1 hf.1
  have k3 := Int.mul_le_mul_of_nonneg_left (Int.le_of_lt hg0.2) (show 0 ≤ 64 - f by omega)
  have k4 := Int.mul_le_mul_of_nonneg_left (Int.le_of_lt hg1.2) hf.1
  have e1 : D * S = (64 - f) * (D * g0) + f * (D * g1) := by rw [hS, Int.mul_add, Int.mul_left_comm, Int.mul_left_comm D f g1]
  have e2 : (64 - f) * (E * c) + f * (E * c + E) = E * (64 * c + f) := by
    rw [Int.sub_mul, Int.mul_add f, Int.mul_add E, Int.mul_left_comm E 64 c, Int.mul_comm f E]; omega
  have e3 : (64 - f) * (D * g0 + D) + f * (D * g1 + D) = D * S + 64 * D := by
    rw [Int.mul_add (64 - f), Int.mul_add f, e1, Int.sub_mul 64 f D]; omega
  have eG : D * G = D * g1 - D * g0 := by rw [hG, Int.mul_sub]
  have d1 : S ≤ 64 * u := Int.le_of_mul_le_mul_left (a := D) (by omega) (by omega)
  have d2 : 64 * u < S + G + 65 := by
    refine Int.lt_of_mul_lt_mul_left (a := D) ?_ (by omega)
    have : D * (S + G + 65) = D * S + D * G + 65 * D := by rw [Int.mul_add, Int.mul_add, Int.mul_comm D 65]
    omega
  have d3 : 0 < G + 1 := by
    refine Int.lt_of_mul_lt_mul_left (a := D) ?_ (by omega)
    have : D * (G + 1) = D * G + D := by rw [Int.mul_add, Int.mul_one]
    omega
  have e4 : rise * (ta + g1) - rise * (ta + g0) = rise * G := by rw [← Int.mul_sub]; exact congrArg (rise * ·) (by omega)
  obtain ⟨w, hw⟩ : ∃ w, w = 64 * u - S := ⟨_, rfl⟩
  have r1 : -(64 * steep + 4160) ≤ rise * w ∧ rise * w ≤ 64 * steep + 4160 := by
    have e6 : rise * (G + 64) = rise * G + 64 * rise := by rw [Int.mul_add, Int.mul_comm rise 64]
    by_cases h : 0 ≤ rise
    · have a1 := Int.mul_nonneg h (show 0 ≤ w by omega)
      have a2 := Int.mul_le_mul_of_nonneg_left (show w ≤ G + 64 by omega) h
      omega
    · have a1 := Int.mul_nonneg (show 0 ≤ -rise by omega) (show 0 ≤ w by omega)
      have a2 := Int.mul_le_mul_of_nonneg_left (show w ≤ G + 64 by omega) (show 0 ≤ -rise by omega)
      rw [Int.neg_mul] at a1
      rw [Int.neg_mul, Int.neg_mul] at a2
      omega
  have v1 := Int.mul_le_mul_of_nonneg_left hA0.1 (show 0 ≤ 64 - f by omega)
  have v2 := Int.mul_le_mul_of_nonneg_left hA1.1 hf.1
  have v3 := Int.mul_le_mul_of_nonneg_left (Int.le_of_lt hA0.2) (show 0 ≤ 64 - f by omega)
  have v4 := Int.mul_le_mul_of_nonneg_left (Int.le_of_lt hA1.2) hf.1
  have e5 : (64 - f) * (rise * (ta + g0)) + f * (rise * (ta + g1)) = rise * (64 * ta + S) := by
    rw [Int.mul_left_comm, Int.mul_left_comm f, ← Int.mul_add]
    refine congrArg (rise * ·) ?_
    rw [hS, Int.mul_add (64 - f), Int.mul_add f, Int.sub_mul 64 f ta]; omega
  have e7 : rise * (64 * ta + S) = 64 * (rise * (ta + u)) - rise * w := by
    rw [Int.mul_left_comm 64 rise, ← Int.mul_sub]
    exact congrArg (rise * ·) (by omega)
  have e8 : (64 - f) * (64 * A0) = 64 * ((64 - f) * A0) := Int.mul_left_comm _ _ _
  have e9 : f * (64 * A1) = 64 * (f * A1) := Int.mul_left_comm _ _ _
  have e10 : (64 - f) * (64 * A0 + 64) = 64 * ((64 - f) * A0) + 64 * (64 - f) := by rw [Int.mul_add, e8, Int.mul_comm (64 - f) 64]
  have e11 : f * (64 * A1 + 64) = 64 * (f * A1) + 64 * f := by rw [Int.mul_add, e9, Int.mul_comm f 64]
  omega
end Go.Lq

namespace Go.Lq

def tapeF (l : List (Int × Int)) (start rise : Int) (n : Nat) : Int := start + rise * timeL l n / 64
def tapeL (l : List (Int × Int)) (start rise : Int) (m : Nat) : List Int := (List.range m).map (tapeF l start rise)
theorem tapeL_len {l : List (Int × Int)} {start rise : Int} {m : Nat} : (tapeL l start rise m).length = m := by simp [tapeL]
theorem tapeL_succ {l : List (Int × Int)} {start rise : Int} {m : Nat} : tapeL l start rise (m + 1) = tapeL l start rise m ++ [tapeF l start rise m] := by simp [tapeL, List.range_succ]
theorem tapeL_getD {l : List (Int × Int)} {start rise : Int} {m i : Nat} (h : i < m) : (tapeL l start rise m).getD i 0 = tapeF l start rise i := by
  unfold tapeL
  rw [List.getD_eq_getElem?_getD, List.getElem?_map, List.getElem?_range h]; rfl
def steepL (f : Nat → Int) : Nat → Int
  | 0 => 0
  | i + 1 => if 0 < i then max (steepL f i) (max (f i - f (i - 1)) (-(f i - f (i - 1)))) else steepL f i
theorem steepL_nn (f : Nat → Int) : ∀ m, 0 ≤ steepL f m
  | 0 => Int.le_refl _
  | m + 1 => by
    have := steepL_nn f m
    unfold steepL
    split <;> omega
theorem steepL_ge (f : Nat → Int) : ∀ {m i : Nat}, i + 1 < m → f (i + 1) - f i ≤ steepL f m ∧ -(f (i + 1) - f i) ≤ steepL f m
  | 0, i, h => by omega
  | m + 1, i, h => by
    by_cases e : i + 1 = m
    · subst e
      unfold steepL
      rw [if_pos (by omega), Nat.add_sub_cancel]
      omega
    · have := steepL_ge f (m := m) (i := i) (by omega)
      unfold steepL
      split <;> omega
theorem outN_all {f : Nat → Int} {B : Int} : ∀ {n k : Nat}, (∀ j : Nat, j < k + n → f j ≤ B) → k + n ≤ 2000 → outN f B k n = (k + n, 0)
  | 0, k, _, _ => rfl
  | n + 1, k, h, hk => by
    have := h k (by omega)
    rw [outN_succ, if_neg (by omega), if_neg (by omega), outN_all (fun j hj => h j (by omega)) (by omega), Nat.add_right_comm]
    rfl
theorem curve_le {l : List (Int × Int)} {step : Int} {k : Nat} (h : MapOk l) (hs : 0 < step) (hk : k < curveN l step) : curveF l step k ≤ 64 * (l.getD (l.length - 1) (0, 0)).1 := by
  have hlo := h.lo
  have hlt := (curveN_lt h hs).1 hk
  have z0 := Int.mul_nonneg (show (0 : Int) ≤ k by omega) (show 0 ≤ step by omega)
  rw [curveF_eq h hs hk]
  obtain ⟨z, hz⟩ : ∃ z, t0L l + (k : Int) * step = z := ⟨_, rfl⟩
  rw [hz] at hlt ⊢
  obtain ⟨a1, a2⟩ := atTime_in (l := l) (t := z) (k := l.length - 2) (i := 0) (by omega) (show t0L l ≤ z by omega)
  have a3 := atTime_up (l := l) (t := z) (k := l.length - 2) (i := 0) (by omega) (show z ≤ tEL l by omega)
  generalize atTime l z 0 (l.length - 2) = i at *
  have c1 := posLo_le (p := pieceOf l i) (t := z) (Int.le_of_lt (h.posUp i a1)) (h.timeUp i a1) a3
  have c2 := h.posLe (show i + 1 ≤ l.length - 1 by omega) (by omega)
  have c3 : (pieceOf l i).2.1 = (l.getD (i + 1) (0, 0)).1 := rfl
  omega
theorem back_res {l : List (Int × Int)} {step : Int} {x : List Int} (h : MapOk l) (hs : 1 ≤ step ∧ step ≤ 1000000000000) (hN : curveN l step ≤ 2000) (hx : (x.length : Int) = (l.getD (l.length - 1) (0, 0)).1 + 1) (hsig : signalErrL x = 0) :
    resL 1 1 0 0 step l x = ((outTo (curveF l step) (curveN l step)).map (yL 1 x), 0) := by
  have hr : rulesErrL 1 1 0 0 step l = 0 := by
    unfold rulesErrL
    rw [if_pos (by omega), if_pos (by decide), if_neg (by decide)]
    unfold curveErrL
    rw [h.err, firstErr_z, if_pos hs, firstErr_z, if_pos ⟨rfl, rfl⟩, firstErr_z]; rfl
  have e : outsR 1 0 0 step l x.length = (outTo (curveF l step) (curveN l step), 0) := by
    unfold outsR outF outC
    rw [if_neg (by decide), if_neg (by decide)]
    unfold outsL
    rw [outN_all (fun j hj => ?_) (by omega), Nat.zero_add]
    have := curve_le h (show 0 < step by omega) (show j < curveN l step by omega)
    omega
  rw [res_z hr hsig, e, if_pos rfl]
theorem back_near {l : List (Int × Int)} {step start rise : Int} {P k : Nat} (h : MapOk l) (hP : (l.getD (l.length - 1) (0, 0)).1 = (P : Int)) (h0 : l.getD 0 (0, 0) = (0, 0)) (hs : 1 ≤ step) (hr : -64 ≤ rise ∧ rise ≤ 64)
    (hx : ∀ j : Nat, -32767 ≤ (tapeL l start rise (P + 1)).getD j 0 ∧ (tapeL l start rise (P + 1)).getD j 0 ≤ 32767) (hk : k < curveN l step) :
    start + rise * ((k : Int) * step) / 64 - (5 + steepL (tapeF l start rise) (P + 1) / 64) ≤ yL 1 (tapeL l start rise (P + 1)) (curveF l step k) ∧
    yL 1 (tapeL l start rise (P + 1)) (curveF l step k) ≤ start + rise * ((k : Int) * step) / 64 + (5 + steepL (tapeF l start rise) (P + 1) / 64) := by
  have hlo := h.lo
  have hlt := (curveN_lt h (show 0 < step by omega)).1 hk
  have z0 := Int.mul_nonneg (show (0 : Int) ≤ k by omega) (show 0 ≤ step by omega)
  have hst0 := steepL_nn (tapeF l start rise) (P + 1)
  rw [curveF_eq h (by omega) hk]
  have ht0 : t0L l = 0 := by unfold t0L; rw [h0]
  rw [ht0, Int.zero_add] at hlt ⊢
  generalize (k : Int) * step = z at *
  obtain ⟨a1, a2⟩ := atTime_in (l := l) (t := z) (k := l.length - 2) (i := 0) (by omega) (show t0L l ≤ z by omega)
  have a3 := atTime_up (l := l) (t := z) (k := l.length - 2) (i := 0) (by omega) (show z ≤ tEL l by omega)
  generalize atTime l z 0 (l.length - 2) = i at *
  have p1 := h.pos i (by omega)
  have p5 := h.posUp i a1
  have p6 := h.timeUp i a1
  have p7 := h.posLe (show i + 1 ≤ l.length - 1 by omega) (by omega)
  have htl : ∀ n : Int, (l.getD i (0, 0)).1 ≤ n → n ≤ (l.getD (i + 1) (0, 0)).1 → timeL l n = (l.getD i (0, 0)).2 + ((l.getD (i + 1) (0, 0)).2 - (l.getD i (0, 0)).2) * (n - (l.getD i (0, 0)).1) / ((l.getD (i + 1) (0, 0)).1 - (l.getD i (0, 0)).1) := fun n h1 h2 => by
    rw [timeL_piece h a1 h1 h2]
    exact timLo_eq (p := pieceOf l i) p5
  have hq : posLo (pieceOf l i) z = 64 * (l.getD i (0, 0)).1 + (z - (l.getD i (0, 0)).2) * (64 * ((l.getD (i + 1) (0, 0)).1 - (l.getD i (0, 0)).1)) / ((l.getD (i + 1) (0, 0)).2 - (l.getD i (0, 0)).2) := rfl
  rw [hq]
  rw [hP] at p7
  generalize (l.getD i (0, 0)).1 = pa at *
  generalize (l.getD (i + 1) (0, 0)).1 = pb at *
  generalize (l.getD i (0, 0)).2 = ta at *
  generalize (l.getD (i + 1) (0, 0)).2 = tb at *
  obtain ⟨D, hD⟩ : ∃ D, pb - pa = D := ⟨_, rfl⟩
  obtain ⟨E, hE⟩ : ∃ E, tb - ta = E := ⟨_, rfl⟩
  obtain ⟨u, hu⟩ : ∃ u, z - ta = u := ⟨_, rfl⟩
  rw [hD, hE] at htl
  rw [hD, hE, hu]
  have s1 := Int.mul_ediv_add_emod (u * (64 * D)) E
  have s2 := Int.emod_nonneg (u * (64 * D)) (show E ≠ 0 by omega)
  have s3 := Int.emod_lt_of_pos (u * (64 * D)) (show 0 < E by omega)
  have s4 : 0 ≤ u * (64 * D) / E := Int.ediv_nonneg (Int.mul_nonneg (by omega) (by omega)) (by omega)
  have s5 : u * (64 * D) / E ≤ 64 * D := Int.ediv_le_of_le_mul (by omega) (by rw [Int.mul_comm (64 * D)]; exact Int.mul_le_mul_of_nonneg_right (by omega) (by omega))
  generalize u * (64 * D) / E = s at *
  generalize u * (64 * D) % E = rr at *
  obtain ⟨c, hc⟩ : ∃ c, s / 64 = c := ⟨_, rfl⟩
  obtain ⟨f, hf⟩ : ∃ f, s % 64 = f := ⟨_, rfl⟩
  obtain ⟨N, hN⟩ : ∃ N : Nat, pa + c = (N : Int) := ⟨(pa + c).toNat, by omega⟩
  have q1 : (64 * pa + s) / 64 = (N : Int) := by omega
  have q2 : (64 * pa + s) % 64 = f := by omega
  have hNP : N ≤ P := by omega
  have b0 : besX (tapeL l start rise (P + 1)) (64 * pa + s) 0 = tapeF l start rise N := by
    unfold besX
    rw [q1, tapeL_len, show clampI (P + 1) ((N : Int) + 0) = N by unfold clampI; omega, tapeL_getD (by omega)]
  have hx0 := hx N
  rw [tapeL_getD (by omega)] at hx0
  have ev := value_1 (x := tapeL l start rise (P + 1)) (q := 64 * pa + s)
  rw [q2, b0] at ev
  have t0 : timeL l (N : Int) = ta + E * c / D := by rw [htl N (by omega) (by omega), show (N : Int) - pa = c by omega]
  have f0 : tapeF l start rise N = start + rise * (ta + E * c / D) / 64 := by unfold tapeF; rw [t0]
  unfold yL
  rw [show denL 1 = 64 from rfl]
  by_cases hcD : c = D
  · have f00 : f = 0 := by omega
    have es : s = 64 * D := by omega
    subst hcD
    have u1 : u * (64 * c) ≤ E * (64 * c) := Int.mul_le_mul_of_nonneg_right (by omega) (by omega)
    have eu : u = E := by
      have : E * (64 * c) = u * (64 * c) := by rw [es] at s1; omega
      exact (Int.eq_of_mul_eq_mul_right (by omega) this).symm
    rw [Int.mul_ediv_cancel _ (by omega)] at f0
    rw [f00] at ev
    rw [show ta + E = z by omega] at f0
    rw [f0] at hx0 ev
    omega
  · have b1 : besX (tapeL l start rise (P + 1)) (64 * pa + s) 1 = tapeF l start rise (N + 1) := by
      unfold besX
      rw [q1, tapeL_len, show clampI (P + 1) ((N : Int) + 1) = N + 1 by unfold clampI; omega, tapeL_getD (by omega)]
    have hx1 := hx (N + 1)
    rw [tapeL_getD (by omega)] at hx1
    rw [b1] at ev
    have t1 : timeL l ((N + 1 : Nat) : Int) = ta + E * (c + 1) / D := by rw [htl _ (by omega) (by omega), show ((N + 1 : Nat) : Int) - pa = c + 1 by omega]
    have f1 : tapeF l start rise (N + 1) = start + rise * (ta + E * (c + 1) / D) / 64 := by unfold tapeF; rw [t1]
    have hge := steepL_ge (tapeF l start rise) (m := P + 1) (i := N) (by omega)
    have g0 := Int.mul_ediv_add_emod (E * c) D
    have g1 := Int.emod_nonneg (E * c) (show D ≠ 0 by omega)
    have g2 := Int.emod_lt_of_pos (E * c) (show 0 < D by omega)
    have g3 := Int.mul_ediv_add_emod (E * (c + 1)) D
    have g4 := Int.emod_nonneg (E * (c + 1)) (show D ≠ 0 by omega)
    have g5 := Int.emod_lt_of_pos (E * (c + 1)) (show 0 < D by omega)
    have g6 : E * (c + 1) = E * c + E := by rw [Int.mul_add, Int.mul_one]
    have es : E * (64 * c + f) + rr = D * (64 * u) := by
      rw [show 64 * c + f = s by omega, s1]
      ac_rfl
    generalize E * c / D = ga at *
    generalize E * (c + 1) / D = gb at *
    have core := undo_core (D := D) (E := E) (ta := ta) (u := u) (c := c) (f := f) (rr := rr) (rise := rise) (g0 := ga) (g1 := gb) (A0 := rise * (ta + ga) / 64) (A1 := rise * (ta + gb) / 64) (steep := steepL (tapeF l start rise) (P + 1))
      (by omega) (by omega) (by omega) hr ⟨by omega, by omega⟩ ⟨by omega, by omega⟩ ⟨by omega, by omega⟩ ⟨by omega, by omega⟩ es ⟨s2, s3⟩ ⟨by omega, by omega⟩
    rw [show ta + u = z by omega] at core
    have w1 := Int.mul_le_mul_of_nonneg_left hx0.1 (show 0 ≤ 64 - f by omega)
    have w2 := Int.mul_le_mul_of_nonneg_left hx0.2 (show 0 ≤ 64 - f by omega)
    have w3 := Int.mul_le_mul_of_nonneg_left hx1.1 (show 0 ≤ f by omega)
    have w4 := Int.mul_le_mul_of_nonneg_left hx1.2 (show 0 ≤ f by omega)
    rw [f0, f1] at ev
    rw [f0] at w1 w2
    rw [f1] at w3 w4
    generalize rise * (ta + ga) / 64 = A0 at *
    generalize rise * (ta + gb) / 64 = A1 at *
    have e1 : (64 - f) * (start + A0) = (64 - f) * start + (64 - f) * A0 := Int.mul_add _ _ _
    have e2 : f * (start + A1) = f * start + f * A1 := Int.mul_add _ _ _
    have e3 : (64 - f) * start = 64 * start - f * start := Int.sub_mul _ _ _
    omega
end Go.Lq

namespace Go.Lq
open Go
open Go.Proofs

theorem signal_c {H : AHeap} : ACall Go.Proofs.Tryd.prog 86 [] H fun v H' => v = .slice (some ⟨H.length, 0, none⟩) 4 4 ∧ H' = H ++ [.cells true 1 (([0, 10, 20, 40] : List Int).map (.int .i64))] := by
  (refine a86 ?_; simp only [n86, List.replicate, List.length_cons, List.length_nil, List.cons_append, List.nil_append]; first | refine q1 ?_ | refine q2 ?_ | refine q6 ?_ | refine q7 ?_ | refine qh rfl ?_ | skip)
  ((repeat (first | refine ya (by (with_reducible constructor) <;> first | rfl | decide) ?_ | apply yb | refine yc rfl ?_ | ((first | apply yd | apply ye); simp (disch := first | exact List.all_nil | omega | (simp only [go_sem]; done) | (simp only [ln, List.length_map]; omega) | (repeat' first | assumption | exact Ext.refl _ | refine Ext.app ?_ _)) only [go_sem]; with_reducible rfl))))
  exact fin_1 ⟨rfl, rfl⟩
theorem topAwake_c {H : AHeap} (hx : Ext H0 H) : ACall Go.Proofs.Tryd.prog 47 [] H fun v H' => v = .bool true ∧ H' = H := by
  refine ACall.drop (.bool _) ?_
  (refine a47 ?_; simp only [n47, List.replicate, List.length_cons, List.length_nil, List.cons_append, List.nil_append]; first | refine q1 ?_ | refine q2 ?_ | refine q6 ?_ | refine q7 ?_ | refine qh rfl ?_ | skip)
  ((repeat (first | refine ya (by (with_reducible constructor) <;> first | rfl | decide) ?_ | apply yb | refine yc rfl ?_ | ((first | apply yd | apply ye); simp (disch := first | exact List.all_nil | omega | (simp only [go_sem]; done) | (simp only [ln, List.length_map]; omega) | (repeat' first | assumption | exact Ext.refl _ | refine Ext.app ?_ _)) only [go_sem]; with_reducible rfl))))
  refine aops_call_to signal_c ?_
  have hX : Ints (H ++ [.cells true 1 (([0, 10, 20, 40] : List Int).map (.int .i64))]) [0, 10, 20, 40] (.slice (some ⟨H.length, 0, none⟩) 4 4) := Ints.last (l := [0, 10, 20, 40]) 4
  have xG : Ext H (H ++ [AObj.cells true 1 (([0, 10, 20, 40] : List Int).map (.int .i64))]) := (Ext.refl H).app _
  generalize (H ++ [AObj.cells true 1 (([0, 10, 20, 40] : List Int).map (.int .i64))] : AHeap) = G at hX xG
  ((repeat (first | refine ya (by (with_reducible constructor) <;> first | rfl | decide) ?_ | apply yb | refine yc rfl ?_ | ((first | apply yd | apply ye); simp (disch := first | exact List.all_nil | omega | (simp only [go_sem]; done) | (simp only [ln, List.length_map]; omega) | (repeat' first | assumption | exact Ext.refl _ | refine Ext.app ?_ _)) only [go_sem]; with_reducible rfl))))
  refine aops_call_to (valueAt_c (deg := 3) (q := 96) (hx.trans xG) hX (by decide)) ?_
  rw [show valNumL 3 [0, 10, 20, 40] 96 = 22609920 by decide, show valDenL 3 [0, 10, 20, 40] 96 = 1572864 by decide, show valErrL 3 [0, 10, 20, 40] 96 = 0 by decide]
  ((repeat (first | refine ya (by (with_reducible constructor) <;> first | rfl | decide) ?_ | apply yb | refine yc rfl ?_ | ((first | apply yd | apply ye); simp (disch := first | exact List.all_nil | omega | (simp only [go_sem]; done) | (simp only [ln, List.length_map]; omega) | (repeat' first | assumption | exact Ext.refl _ | refine Ext.app ?_ _)) only [go_sem]; with_reducible rfl))))
  refine aops_call_to (stableBound_c 1 0 2 100) ?_
  rw [show stableL 1 0 2 100 = 200 by decide, show stableErrL 1 0 2 100 = 0 by decide]
  ((repeat (first | refine ya (by (with_reducible constructor) <;> first | rfl | decide) ?_ | apply yb | refine yc rfl ?_ | ((first | apply yd | apply ye); simp (disch := first | exact List.all_nil | omega | (simp only [go_sem]; done) | (simp only [ln, List.length_map]; omega) | (repeat' first | assumption | exact Ext.refl _ | refine Ext.app ?_ _)) only [go_sem]; with_reducible rfl))))
  exact fin_1 ⟨rfl, xG⟩
end Go.Lq

namespace Go.Lq
open Go
open Go.Proofs

set_option maxRecDepth 100000 in
theorem repTape {H : AHeap} {v : Value} (h : RepA Tryd.prog H 69 v) : ∃ s step start rise l, v = .agg ⟨[s, .int .i64 step, .int .i64 start, .int .i64 rise]⟩ ∧ Pairs H l s ∧ l.length ≤ maxLen := by
  obtain ⟨acs, rfl, hr⟩ := h.struct Tryd.underlying69
  obtain ⟨hl, hf⟩ := hr.struct_inv Tryd.underlying69
  rw [show Tryd.prog.cellsOf 69 = 4 by kernel_rfl] at hl
  match acs, hl with
  | [s, b, c, d], _ =>
    have h0 : Rep Tryd.prog H 24 (([s, b, c, d].drop 0).take (Tryd.prog.cellsOf 24)) := hf 0 _ rfl
    have h1 : Rep Tryd.prog H 3 (([s, b, c, d].drop 1).take (Tryd.prog.cellsOf 3)) := hf 1 _ rfl
    have h2 : Rep Tryd.prog H 3 (([s, b, c, d].drop 2).take (Tryd.prog.cellsOf 3)) := hf 2 _ rfl
    have h3 : Rep Tryd.prog H 3 (([s, b, c, d].drop 3).take (Tryd.prog.cellsOf 3)) := hf 3 _ rfl
    rw [cells3] at h1 h2 h3
    rw [show Tryd.prog.cellsOf 24 = 1 by kernel_rfl] at h0
    obtain ⟨n1, e1, _⟩ := h1.int_inv Tryd.underlying3
    obtain ⟨n2, e2, _⟩ := h2.int_inv Tryd.underlying3
    obtain ⟨n3, e3, _⟩ := h3.int_inv Tryd.underlying3
    have e1' : [b] = [.int .i64 n1] := e1
    have e2' : [c] = [.int .i64 n2] := e2
    have e3' : [d] = [.int .i64 n3] := e3
    cases e1'; cases e2'; cases e3'
    obtain ⟨l, h6, h7⟩ := repMap (s := s) h0
    exact ⟨s, n1, n2, n3, l, rfl, h6, h7⟩
theorem ne_pair {p q : Int × Int} {H : AHeap} (h : p = q) : eqAggR true [(0, false), (1, false)] (.agg ⟨[.int .i64 p.1, .int .i64 p.2]⟩) (.agg ⟨[.int .i64 q.1, .int .i64 q.2]⟩) H = some (.bool false, H) := by
  rw [eq_pair]; simp [h]
theorem ne_pair' {p q : Int × Int} {H : AHeap} (h : ¬ p = q) : eqAggR true [(0, false), (1, false)] (.agg ⟨[.int .i64 p.1, .int .i64 p.2]⟩) (.agg ⟨[.int .i64 q.1, .int .i64 q.2]⟩) H = some (.bool true, H) := by
  rw [eq_pair]; simp [h]
set_option maxRecDepth 100000 in
set_option maxHeartbeats 16000000 in
theorem law9 {H : AHeap} {avs : List Value} (hx : Ext H0 H) (h : RepAll Tryd.prog H [69] avs) : ACall Tryd.prog 9 avs H fun v _ => v = .bool true := by
  obtain ⟨a, rfl, h1⟩ := h.one
  obtain ⟨s, step, start, rise, l, rfl, hl, hlm⟩ := repTape h1
  (refine a9 ?_; simp only [n9, List.replicate, List.length_cons, List.length_nil, List.cons_append, List.nil_append]; first | refine Go.Lq.q1 ?_ | refine Go.Lq.q2 ?_ | refine Go.Lq.q6 ?_ | refine Go.Lq.q7 ?_ | refine Go.Lq.qh rfl ?_ | skip)
  obtain ⟨T, hT⟩ : ∃ T, T = [s, Value.int .i64 step, .int .i64 start, .int .i64 rise] := ⟨_, rfl⟩
  have hbx : ∀ J : AHeap, boxR (.agg ⟨[s, .int .i64 step, .int .i64 start, .int .i64 rise]⟩) J = some (.pointer (some ⟨J.length, 0, none⟩), J ++ [.cells true 0 T]) := fun J => by rw [hT]; exact box_agg (by simp [hl.atom, isAtom_int])
  obtain ⟨G, hG⟩ : ∃ G, G = H ++ [AObj.cells true 0 T] := ⟨_, rfl⟩
  have g0 : G[H.length]? = some (.cells true 0 T) := by rw [hG]; simp
  have xG : Ext H G := by rw [hG]; exact (Ext.refl H).app _
  have lG : G.length = H.length + 1 := by rw [hG]; simp
  ((repeat (first | refine ya (by (with_reducible constructor) <;> first | rfl | decide) ?_ | apply yb | refine yc rfl ?_ | ((first | apply yd | apply ye); simp (disch := first | exact List.all_nil | omega | (simp only [go_sem]; done) | (simp only [ln, List.length_map]; omega) | (repeat' first | assumption | exact Ext.refl _ | refine Ext.app ?_ _)) only [go_sem, hbx]; with_reducible rfl))))
  rw [← hG]
  clear hG
  refine aops_call_to (topAwake_c (hx.trans xG)) ?_
  ((repeat (first | refine ya (by (with_reducible constructor) <;> first | rfl | decide) ?_ | apply yb | refine yc rfl ?_ | ((first | apply yd | apply ye); simp (disch := first | exact List.all_nil | omega | (simp only [go_sem]; done) | (simp only [ln, List.length_map]; omega) | (repeat' first | assumption | exact Ext.refl _ | refine Ext.app ?_ _)) only [go_sem]; with_reducible rfl))))
  refine cond_f rfl ?_
  have ld0 : ∀ J : AHeap, J[H.length]? = some (.cells true 0 T) → loadNR 1 (.pointer (some ⟨H.length, 0, none⟩)) J = some (.agg ⟨[s]⟩, J) := fun J hJ => by rw [hT] at hJ; exact loadN_at hJ (by simp)
  have ld1 : ∀ J : AHeap, J[H.length]? = some (.cells true 0 T) → loadR (.pointer (some ⟨H.length, 1, none⟩)) J = some (.int .i64 step, J) := fun J hJ => by rw [hT] at hJ; rw [load_at hJ]; rfl
  have ld2 : ∀ J : AHeap, J[H.length]? = some (.cells true 0 T) → loadR (.pointer (some ⟨H.length, 2, none⟩)) J = some (.int .i64 start, J) := fun J hJ => by rw [hT] at hJ; rw [load_at hJ]; rfl
  have ld3 : ∀ J : AHeap, J[H.length]? = some (.cells true 0 T) → loadR (.pointer (some ⟨H.length, 3, none⟩)) J = some (.int .i64 rise, J) := fun J hJ => by rw [hT] at hJ; rw [load_at hJ]; rfl
  have hst : storeR 1 (.pointer (some ⟨G.length, 0, none⟩)) (.agg ⟨[s]⟩) (G ++ [.cells true 0 [.slice none 0 0]]) = some (undef, G ++ [.cells true 0 [s]]) := store_newN (by simp [hl.atom]) rfl rfl
  (repeat (first | refine ya (by (with_reducible constructor) <;> first | rfl | decide) ?_ | (apply yd; simp (disch := first | exact List.all_nil | omega | (simp only [go_sem]; done) | (simp only [ln, List.length_map]; omega) | (repeat' first | assumption | exact Ext.refl _ | refine Ext.app ?_ _)) only [go_sem, ld0 G g0, hst]; with_reducible rfl)))
  obtain ⟨G1, hG1⟩ : ∃ G1, G1 = G ++ [AObj.cells true 0 [s]] := ⟨_, rfl⟩
  have x1 : Ext G G1 := by rw [hG1]; exact (Ext.refl G).app _
  have k0 := x1.cell g0
  have k1 : G1[G.length]? = some (.cells true 0 [s]) := by rw [hG1]; simp
  have lG1 : G1.length = G.length + 1 := by rw [hG1]; simp
  rw [← hG1]
  clear hG1
  have xH1 := xG.trans x1
  have hx1 := hx.trans xH1
  have hl1 := hl.ext xH1
  by_cases h20 : l.length ≤ 20
  rotate_left 1
  · ((repeat (first | refine ya (by (with_reducible constructor) <;> first | rfl | decide) ?_ | apply yb | refine yc rfl ?_ | ((first | apply yd | apply ye); simp (disch := first | exact List.all_nil | omega | (simp only [go_sem]; done) | (simp only [ln, List.length_map]; omega) | (repeat' first | assumption | exact Ext.refl _ | refine Ext.app ?_ _)) only [go_sem, hl1.len, hl1.idx, hl1.load, n1_at k1, load1 k1, dec_t (show (20 : Int) < (l.length : Int) by omega)]; with_reducible rfl))))
    refine cond_t rfl ?_
    ((repeat (first | refine ya (by (with_reducible constructor) <;> first | rfl | decide) ?_ | apply yb | refine yc rfl ?_ | ((first | apply yd | apply ye); simp (disch := first | exact List.all_nil | omega | (simp only [go_sem]; done) | (simp only [ln, List.length_map]; omega) | (repeat' first | assumption | exact Ext.refl _ | refine Ext.app ?_ _)) only [go_sem]; with_reducible rfl))))
    exact fin_1 rfl
  ((repeat (first | refine ya (by (with_reducible constructor) <;> first | rfl | decide) ?_ | apply yb | refine yc rfl ?_ | ((first | apply yd | apply ye); simp (disch := first | exact List.all_nil | omega | (simp only [go_sem]; done) | (simp only [ln, List.length_map]; omega) | (repeat' first | assumption | exact Ext.refl _ | refine Ext.app ?_ _)) only [go_sem, hl1.len, hl1.idx, hl1.load, n1_at k1, load1 k1, dec_f (show ¬ (20 : Int) < (l.length : Int) by omega)]; with_reducible rfl))))
  refine adraw_call (N := []) (firstD (rMapErr_c hl1 (by omega))) ?_
  rw [List.append_nil]
  by_cases hm : mapErrL l = 0
  rotate_left 1
  · ((repeat (first | refine ya (by (with_reducible constructor) <;> first | rfl | decide) ?_ | apply yb | refine yc rfl ?_ | ((first | apply yd | apply ye); simp (disch := first | exact List.all_nil | omega | (simp only [go_sem]; done) | (simp only [ln, List.length_map]; omega) | (repeat' first | assumption | exact Ext.refl _ | refine Ext.app ?_ _)) only [go_sem, dec_t (show mapErrL l ≠ 0 from hm)]; with_reducible rfl))))
    refine cond_t rfl ?_
    ((repeat (first | refine ya (by (with_reducible constructor) <;> first | rfl | decide) ?_ | apply yb | refine yc rfl ?_ | ((first | apply yd | apply ye); simp (disch := first | exact List.all_nil | omega | (simp only [go_sem]; done) | (simp only [ln, List.length_map]; omega) | (repeat' first | assumption | exact Ext.refl _ | refine Ext.app ?_ _)) only [go_sem]; with_reducible rfl))))
    exact fin_1 rfl
  have hok := mapErr_ok hm
  have hlo := hok.lo
  ((repeat (first | refine ya (by (with_reducible constructor) <;> first | rfl | decide) ?_ | apply yb | refine yc rfl ?_ | ((first | apply yd | apply ye); simp (disch := first | exact List.all_nil | omega | (simp only [go_sem]; done) | (simp only [ln, List.length_map]; omega) | (repeat' first | assumption | exact Ext.refl _ | refine Ext.app ?_ _)) only [go_sem, hm, n1_at k1]; with_reducible rfl))))
  refine adraw_call (N := []) (firstD (rFirst_c hl1 (by omega))) ?_
  rw [List.append_nil]
  by_cases h00 : l.getD 0 (0, 0) = (0, 0)
  rotate_left 1
  · have e := fun J : AHeap => ne_pair' (H := J) h00
    ((repeat (first | refine ya (by (with_reducible constructor) <;> first | rfl | decide) ?_ | apply yb | refine yc rfl ?_ | ((first | apply yd | apply ye); simp (disch := first | exact List.all_nil | omega | (simp only [go_sem]; done) | (simp only [ln, List.length_map]; omega) | (repeat' first | assumption | exact Ext.refl _ | refine Ext.app ?_ _)) only [go_sem, fill_none, e]; with_reducible rfl))))
    refine cond_t rfl ?_
    ((repeat (first | refine ya (by (with_reducible constructor) <;> first | rfl | decide) ?_ | apply yb | refine yc rfl ?_ | ((first | apply yd | apply ye); simp (disch := first | exact List.all_nil | omega | (simp only [go_sem]; done) | (simp only [ln, List.length_map]; omega) | (repeat' first | assumption | exact Ext.refl _ | refine Ext.app ?_ _)) only [go_sem]; with_reducible rfl))))
    exact fin_1 rfl
  have e00 := fun J : AHeap => ne_pair (H := J) h00
  ((repeat (first | refine ya (by (with_reducible constructor) <;> first | rfl | decide) ?_ | apply yb | refine yc rfl ?_ | ((first | apply yd | apply ye); simp (disch := first | exact List.all_nil | omega | (simp only [go_sem]; done) | (simp only [ln, List.length_map]; omega) | (repeat' first | assumption | exact Ext.refl _ | refine Ext.app ?_ _)) only [go_sem, fill_none, e00, n1_at k1]; with_reducible rfl))))
  refine adraw_call (N := []) (firstD (rLast_c hl1 (by omega) (by omega))) ?_
  rw [List.append_nil]
  by_cases hP : (l.getD (l.length - 1) (0, 0)).1 ≤ 60
  rotate_left 1
  · ((repeat (first | refine ya (by (with_reducible constructor) <;> first | rfl | decide) ?_ | apply yb | refine yc rfl ?_ | ((first | apply yd | apply ye); simp (disch := first | exact List.all_nil | omega | (simp only [go_sem]; done) | (simp only [ln, List.length_map]; omega) | (repeat' first | assumption | exact Ext.refl _ | refine Ext.app ?_ _)) only [go_sem, dec_t (show (60 : Int) < (l.getD (l.length - 1) (0, 0)).1 by omega)]; with_reducible rfl))))
    refine cond_t rfl ?_
    ((repeat (first | refine ya (by (with_reducible constructor) <;> first | rfl | decide) ?_ | apply yb | refine yc rfl ?_ | ((first | apply yd | apply ye); simp (disch := first | exact List.all_nil | omega | (simp only [go_sem]; done) | (simp only [ln, List.length_map]; omega) | (repeat' first | assumption | exact Ext.refl _ | refine Ext.app ?_ _)) only [go_sem]; with_reducible rfl))))
    exact fin_1 rfl
  ((repeat (first | refine ya (by (with_reducible constructor) <;> first | rfl | decide) ?_ | apply yb | refine yc rfl ?_ | ((first | apply yd | apply ye); simp (disch := first | exact List.all_nil | omega | (simp only [go_sem]; done) | (simp only [ln, List.length_map]; omega) | (repeat' first | assumption | exact Ext.refl _ | refine Ext.app ?_ _)) only [go_sem, dec_f (show ¬ (60 : Int) < (l.getD (l.length - 1) (0, 0)).1 by omega), ld1 G1 k0]; with_reducible rfl))))
  refine adraw_call (N := []) (firstD (bwithin_c _ _ _)) ?_
  rw [List.append_nil]
  by_cases hs : 1 ≤ step ∧ step ≤ 1000
  rotate_left 1
  · ((repeat (first | refine ya (by (with_reducible constructor) <;> first | rfl | decide) ?_ | apply yb | refine yc rfl ?_ | ((first | apply yd | apply ye); simp (disch := first | exact List.all_nil | omega | (simp only [go_sem]; done) | (simp only [ln, List.length_map]; omega) | (repeat' first | assumption | exact Ext.refl _ | refine Ext.app ?_ _)) only [go_sem, dec_f hs]; with_reducible rfl))))
    refine cond_t rfl ?_
    ((repeat (first | refine ya (by (with_reducible constructor) <;> first | rfl | decide) ?_ | apply yb | refine yc rfl ?_ | ((first | apply yd | apply ye); simp (disch := first | exact List.all_nil | omega | (simp only [go_sem]; done) | (simp only [ln, List.length_map]; omega) | (repeat' first | assumption | exact Ext.refl _ | refine Ext.app ?_ _)) only [go_sem]; with_reducible rfl))))
    exact fin_1 rfl
  ((repeat (first | refine ya (by (with_reducible constructor) <;> first | rfl | decide) ?_ | apply yb | refine yc rfl ?_ | ((first | apply yd | apply ye); simp (disch := first | exact List.all_nil | omega | (simp only [go_sem]; done) | (simp only [ln, List.length_map]; omega) | (repeat' first | assumption | exact Ext.refl _ | refine Ext.app ?_ _)) only [go_sem, dec_t hs, ld2 G1 k0]; with_reducible rfl))))
  refine adraw_call (N := []) (firstD (bwithin_c _ _ _)) ?_
  rw [List.append_nil]
  by_cases ha : -1000 ≤ start ∧ start ≤ 1000
  rotate_left 1
  · ((repeat (first | refine ya (by (with_reducible constructor) <;> first | rfl | decide) ?_ | apply yb | refine yc rfl ?_ | ((first | apply yd | apply ye); simp (disch := first | exact List.all_nil | omega | (simp only [go_sem]; done) | (simp only [ln, List.length_map]; omega) | (repeat' first | assumption | exact Ext.refl _ | refine Ext.app ?_ _)) only [go_sem, dec_f ha]; with_reducible rfl))))
    refine cond_t rfl ?_
    ((repeat (first | refine ya (by (with_reducible constructor) <;> first | rfl | decide) ?_ | apply yb | refine yc rfl ?_ | ((first | apply yd | apply ye); simp (disch := first | exact List.all_nil | omega | (simp only [go_sem]; done) | (simp only [ln, List.length_map]; omega) | (repeat' first | assumption | exact Ext.refl _ | refine Ext.app ?_ _)) only [go_sem]; with_reducible rfl))))
    exact fin_1 rfl
  ((repeat (first | refine ya (by (with_reducible constructor) <;> first | rfl | decide) ?_ | apply yb | refine yc rfl ?_ | ((first | apply yd | apply ye); simp (disch := first | exact List.all_nil | omega | (simp only [go_sem]; done) | (simp only [ln, List.length_map]; omega) | (repeat' first | assumption | exact Ext.refl _ | refine Ext.app ?_ _)) only [go_sem, dec_t ha, ld3 G1 k0]; with_reducible rfl))))
  refine adraw_call (N := []) (firstD (bwithin_c _ _ _)) ?_
  rw [List.append_nil]
  by_cases hr : -64 ≤ rise ∧ rise ≤ 64
  rotate_left 1
  · ((repeat (first | refine ya (by (with_reducible constructor) <;> first | rfl | decide) ?_ | apply yb | refine yc rfl ?_ | ((first | apply yd | apply ye); simp (disch := first | exact List.all_nil | omega | (simp only [go_sem]; done) | (simp only [ln, List.length_map]; omega) | (repeat' first | assumption | exact Ext.refl _ | refine Ext.app ?_ _)) only [go_sem, dec_f hr]; with_reducible rfl))))
    refine cond_t rfl ?_
    ((repeat (first | refine ya (by (with_reducible constructor) <;> first | rfl | decide) ?_ | apply yb | refine yc rfl ?_ | ((first | apply yd | apply ye); simp (disch := first | exact List.all_nil | omega | (simp only [go_sem]; done) | (simp only [ln, List.length_map]; omega) | (repeat' first | assumption | exact Ext.refl _ | refine Ext.app ?_ _)) only [go_sem]; with_reducible rfl))))
    exact fin_1 rfl
  ((repeat (first | refine ya (by (with_reducible constructor) <;> first | rfl | decide) ?_ | apply yb | refine yc rfl ?_ | ((first | apply yd | apply ye); simp (disch := first | exact List.all_nil | omega | (simp only [go_sem]; done) | (simp only [ln, List.length_map]; omega) | (repeat' first | assumption | exact Ext.refl _ | refine Ext.app ?_ _)) only [go_sem, dec_t hr, n1_at k1]; with_reducible rfl))))
  refine adraw_call (N := []) (firstD (rLast_c hl1 (by omega) (by omega))) ?_
  rw [List.append_nil]
  by_cases hE : (l.getD (l.length - 1) (0, 0)).2 ≤ 20000
  rotate_left 1
  · ((repeat (first | refine ya (by (with_reducible constructor) <;> first | rfl | decide) ?_ | apply yb | refine yc rfl ?_ | ((first | apply yd | apply ye); simp (disch := first | exact List.all_nil | omega | (simp only [go_sem]; done) | (simp only [ln, List.length_map]; omega) | (repeat' first | assumption | exact Ext.refl _ | refine Ext.app ?_ _)) only [go_sem, dec_t (show (20000 : Int) < (l.getD (l.length - 1) (0, 0)).2 by omega)]; with_reducible rfl))))
    refine cond_t rfl ?_
    ((repeat (first | refine ya (by (with_reducible constructor) <;> first | rfl | decide) ?_ | apply yb | refine yc rfl ?_ | ((first | apply yd | apply ye); simp (disch := first | exact List.all_nil | omega | (simp only [go_sem]; done) | (simp only [ln, List.length_map]; omega) | (repeat' first | assumption | exact Ext.refl _ | refine Ext.app ?_ _)) only [go_sem]; with_reducible rfl))))
    exact fin_1 rfl
  have pE := hok.time (l.length - 1) (by omega)
  have pP := hok.pos (l.length - 1) (by omega)
  ((repeat (first | refine ya (by (with_reducible constructor) <;> first | rfl | decide) ?_ | apply yb | refine yc rfl ?_ | ((first | apply yd | apply ye); simp (disch := first | exact List.all_nil | omega | (simp only [go_sem]; done) | (simp only [ln, List.length_map]; omega) | (repeat' first | assumption | exact Ext.refl _ | refine Ext.app ?_ _)) only [go_sem, dec_f (show ¬ (20000 : Int) < (l.getD (l.length - 1) (0, 0)).2 by omega), n1_at k1]; with_reducible rfl))))
  refine adraw_call (N := []) (firstD (rLast_c hl1 (by omega) (by omega))) ?_
  rw [List.append_nil]
  have eqT : (l.getD (l.length - 1) (0, 0)).2.tdiv step = (l.getD (l.length - 1) (0, 0)).2 / step := Int.tdiv_eq_ediv_of_nonneg pE.1
  have qb := ediv_bound (n := (l.getD (l.length - 1) (0, 0)).2) (b := step) (m := 20000) (by omega) ⟨by omega, hE⟩
  by_cases h4 : (l.getD (l.length - 1) (0, 0)).2 / step < 400
  rotate_left 1
  · ((repeat (first | refine ya (by (with_reducible constructor) <;> first | rfl | decide) ?_ | apply yb | refine yc rfl ?_ | ((first | apply yd | apply ye); simp (disch := first | exact List.all_nil | omega | (simp only [go_sem]; done) | (simp only [ln, List.length_map]; omega) | (repeat' first | assumption | exact Ext.refl _ | refine Ext.app ?_ _)) only [go_sem, ld1 G1 k0, a_quo (show step ≠ 0 by omega), eqT, dec_t (show (400 : Int) ≤ (l.getD (l.length - 1) (0, 0)).2 / step by omega)]; with_reducible rfl))))
    refine cond_t rfl ?_
    ((repeat (first | refine ya (by (with_reducible constructor) <;> first | rfl | decide) ?_ | apply yb | refine yc rfl ?_ | ((first | apply yd | apply ye); simp (disch := first | exact List.all_nil | omega | (simp only [go_sem]; done) | (simp only [ln, List.length_map]; omega) | (repeat' first | assumption | exact Ext.refl _ | refine Ext.app ?_ _)) only [go_sem]; with_reducible rfl))))
    exact fin_1 rfl
  ((repeat (first | refine ya (by (with_reducible constructor) <;> first | rfl | decide) ?_ | apply yb | refine yc rfl ?_ | ((first | apply yd | apply ye); simp (disch := first | exact List.all_nil | omega | (simp only [go_sem]; done) | (simp only [ln, List.length_map]; omega) | (repeat' first | assumption | exact Ext.refl _ | refine Ext.app ?_ _)) only [go_sem, ld1 G1 k0, a_quo (show step ≠ 0 by omega), eqT, dec_f (show ¬ (400 : Int) ≤ (l.getD (l.length - 1) (0, 0)).2 / step by omega)]; with_reducible rfl))))
  refine cond_f rfl ?_
  ((repeat (first | refine ya (by (with_reducible constructor) <;> first | rfl | decide) ?_ | apply yb | refine yc rfl ?_ | ((first | apply yd | apply ye); simp (disch := first | exact List.all_nil | omega | (simp only [go_sem]; done) | (simp only [ln, List.length_map]; omega) | (repeat' first | assumption | exact Ext.refl _ | refine Ext.app ?_ _)) only [go_sem]; with_reducible rfl))))
  obtain ⟨P, hPn⟩ : ∃ P : Nat, (l.getD (l.length - 1) (0, 0)).1 = (P : Int) := ⟨((l.getD (l.length - 1) (0, 0)).1).toNat, by omega⟩
  have hP60 : P ≤ 60 := by omega
  have h01 : (l.getD 0 (0, 0)).1 = 0 := by rw [h00]
  obtain ⟨f, hf⟩ : ∃ f, f = tapeF l start rise := ⟨_, rfl⟩
  have hfb : ∀ i : Nat, i ≤ P → (0 ≤ timeL l i ∧ timeL l i ≤ 20000) ∧ f i = start + rise * timeL l i / 64 ∧ (-1300000 ≤ rise * timeL l i ∧ rise * timeL l i ≤ 1300000) ∧ (-30000 ≤ f i ∧ f i ≤ 30000) := fun i hi => by
    have ht : 0 ≤ timeL l i ∧ timeL l i ≤ 20000 := by
      obtain ⟨a1, a2⟩ := atPos_in (l := l) (t := (i : Int)) (k := l.length - 2) (i := 0) (by omega) (by omega)
      have a3 := atPos_up (l := l) (t := (i : Int)) (k := l.length - 2) (i := 0) (by omega) (by omega)
      unfold timeL
      generalize atPos l i 0 (l.length - 2) = j at *
      have p3 := hok.time j (by omega)
      have p4 := hok.timeLe (show j + 1 ≤ l.length - 1 by omega) (by omega)
      have p5 := hok.posUp j a1
      have p6 := hok.timeUp j a1
      have e := timLo_eq (p := pieceOf l j) (n := (i : Int)) p5
      have e1 : (pieceOf l j).1.1 = (l.getD j (0, 0)).1 := rfl
      have e2 : (pieceOf l j).1.2 = (l.getD j (0, 0)).2 := rfl
      have e3 : (pieceOf l j).2.1 = (l.getD (j + 1) (0, 0)).1 := rfl
      have e4 : (pieceOf l j).2.2 = (l.getD (j + 1) (0, 0)).2 := rfl
      rw [e, e1, e2, e3, e4]
      have m1 := Int.ediv_nonneg (Int.mul_nonneg (show 0 ≤ (l.getD (j + 1) (0, 0)).2 - (l.getD j (0, 0)).2 by omega) (show 0 ≤ (i : Int) - (l.getD j (0, 0)).1 by omega)) (show 0 ≤ (l.getD (j + 1) (0, 0)).1 - (l.getD j (0, 0)).1 by omega)
      have m2 : ((l.getD (j + 1) (0, 0)).2 - (l.getD j (0, 0)).2) * ((i : Int) - (l.getD j (0, 0)).1) / ((l.getD (j + 1) (0, 0)).1 - (l.getD j (0, 0)).1) ≤ (l.getD (j + 1) (0, 0)).2 - (l.getD j (0, 0)).2 :=
        Int.ediv_le_of_le_mul (by omega) (Int.mul_le_mul_of_nonneg_left (by omega) (by omega))
      omega
    have hm := mul_abs (x := rise) (y := timeL l i) (a := 64) (b := 20000) ⟨by omega, by omega⟩ ⟨by omega, by omega⟩
    have ef : f i = start + rise * timeL l i / 64 := by rw [hf]; rfl
    exact ⟨ht, ef, ⟨by omega, by omega⟩, by omega, by omega⟩
  refine awp_loop_n [false, true, false, true, true, true, true, false, false, false, false, false, false, false, false, false, false, false, false, false, false, false, false, false, false, false, false, false, false, false, false, false, false, false, false, false, false, false, false, false, false, false, false, false, false, false, false, false, false, false, false, false, false, false, false, false, false, false, false, false, false, false, false, false, false, false, false, false, false, false, false, false, false, false, false, false, false, false, false, false, false, false, false, false, false, false, false, false, false, false, false, false, false, false, false, false, false, false, false, false, false, false, false, false, false, false, false, false, false, false, false, false, false, false, false, false, false, false, false, false, false, false, false, false, false, false, false, false, false, false, false, false, false, false, false, false, false, false, false, false, false, false, false, false, false, false, false, false, false, false, false, false, false, false, false, false, false, false, false, false, false, false, false, false, false, false, false, false, false, false, false, false, false, false, false, false, false, false, false, false, false, false, false, false, false, false, false] (P + 1) (fun i e H' => ∃ ov, e = [junk, .pointer (some ⟨H.length, 0, none⟩), junk, .pointer (some ⟨G.length, 0, none⟩), ov, .int .i64 (steepL f i), .int .i64 i, junk, junk, junk, junk, junk, junk, junk, junk, junk, junk, junk, junk, junk, junk, junk, junk, junk, junk, junk, junk, junk, junk, junk, junk, junk, junk, junk, junk, junk, junk, junk, junk, junk, junk, junk, junk, junk, junk, junk, junk, junk, junk, junk, junk, junk, junk, junk, junk, junk, junk, junk, junk, junk, junk, junk, junk, junk, junk, junk, junk, junk, junk, junk, junk, junk, junk, junk, junk, junk, junk, junk, junk, junk, junk, junk, junk, junk, junk, junk, junk, junk, junk, junk, junk, junk, junk, junk, junk, junk, junk, junk, junk, junk, junk, junk, junk, junk, junk, junk, junk, junk, junk, junk, junk, junk, junk, junk, junk, junk, junk, junk, junk, junk, junk, junk, junk, junk, junk, junk, junk, junk, junk, junk, junk, junk, junk, junk, junk, junk, junk, junk, junk, junk, junk, junk, junk, junk, junk, junk, junk, junk, junk, junk, junk, junk, junk, junk, junk, junk, junk, junk, junk, junk, junk, junk, junk, junk, junk, junk, junk, junk, junk, junk, junk, junk, junk, junk, junk, junk, junk, junk, junk, junk, junk, junk, junk, junk, junk, junk, junk] ∧ Ext G1 H' ∧ OwnI G1 H' (tapeL l start rise i) ov ∧ (0 ≤ steepL f i ∧ steepL f i ≤ 60000)) ?_ ?_
  · exact ⟨.slice none 0 0, by simp [forget, steepL], Ext.refl _, OwnI.nil _ _, Int.le_refl _, by show (0 : Int) ≤ 60000; omega⟩
  rintro i e H2 hi ⟨ov, rfl, x2, ho2, hst2⟩
  have j0 := x2.cell k0
  have j1 := x2.cell k1
  have hl2 := hl1.ext x2
  ((repeat (first | refine ya (by (with_reducible constructor) <;> first | rfl | decide) ?_ | apply yb | refine yc rfl ?_ | ((first | apply yd | apply ye); simp (disch := first | exact List.all_nil | omega | (simp only [go_sem]; done) | (simp only [ln, List.length_map]; omega) | (repeat' first | assumption | exact Ext.refl _ | refine Ext.app ?_ _)) only [go_sem, n1_at j1]; with_reducible rfl))))
  refine aops_call_to (rLast_c hl2 (by omega) (by omega)) ?_
  by_cases hiP : i ≤ P
  · have hb := hfb i hiP
    ((repeat (first | refine ya (by (with_reducible constructor) <;> first | rfl | decide) ?_ | apply yb | refine yc rfl ?_ | ((first | apply yd | apply ye); simp (disch := first | exact List.all_nil | omega | (simp only [go_sem]; done) | (simp only [ln, List.length_map]; omega) | (repeat' first | assumption | exact Ext.refl _ | refine Ext.app ?_ _)) only [go_sem, dec_t (show (i : Int) ≤ (l.getD (l.length - 1) (0, 0)).1 by omega)]; with_reducible rfl))))
    refine cond_t rfl ?_
    ((repeat (first | refine ya (by (with_reducible constructor) <;> first | rfl | decide) ?_ | apply yb | refine yc rfl ?_ | ((first | apply yd | apply ye); simp (disch := first | exact List.all_nil | omega | (simp only [go_sem]; done) | (simp only [ln, List.length_map]; omega) | (repeat' first | assumption | exact Ext.refl _ | refine Ext.app ?_ _)) only [go_sem, n1_at j1]; with_reducible rfl))))
    refine aops_call_to (copyMap_c hl2 (by omega)) ?_
    have hC : Pairs (H2 ++ [.cells true 2 (flatP l)]) l (.slice (some ⟨H2.length, 0, none⟩) l.length l.length) := Pairs.last l.length
    have x3 : Ext H2 (H2 ++ [AObj.cells true 2 (flatP l)]) := (Ext.refl H2).app _
    have ho3 := ho2.app [AObj.cells true 2 (flatP l)]
    generalize (H2 ++ [AObj.cells true 2 (flatP l)] : AHeap) = H3 at hC x3 ho3
    ((repeat (first | refine ya (by (with_reducible constructor) <;> first | rfl | decide) ?_ | apply yb | refine yc rfl ?_ | ((first | apply yd | apply ye); simp (disch := first | exact List.all_nil | omega | (simp only [go_sem]; done) | (simp only [ln, List.length_map]; omega) | (repeat' first | assumption | exact Ext.refl _ | refine Ext.app ?_ _)) only [go_sem]; with_reducible rfl))))
    refine aops_call_to (sTimeAt_c (n := (i : Int)) hC hok (by omega) (by omega)) ?_
    have etl : timLo (pieceOf l (atPos l (i : Int) 0 (l.length - 2))) i = timeL l i := rfl
    rw [etl]
    obtain ⟨th, hth⟩ : ∃ th, timHi (pieceOf l (atPos l (i : Int) 0 (l.length - 2))) i = th := ⟨_, rfl⟩
    rw [hth]
    have hst3 : storeR 2 (.pointer (some ⟨H3.length, 0, none⟩)) (fracV (timeL l i, th)) (H3 ++ [.cells true 0 [.int .i64 0, .int .i64 0]]) = some (undef, H3 ++ [.cells true 0 [.int .i64 (timeL l i), .int .i64 th]]) := store_newN rfl rfl rfl
    (repeat (first | refine ya (by (with_reducible constructor) <;> first | rfl | decide) ?_ | (apply yd; simp (disch := first | exact List.all_nil | omega | (simp only [go_sem]; done) | (simp only [ln, List.length_map]; omega) | (repeat' first | assumption | exact Ext.refl _ | refine Ext.app ?_ _)) only [go_sem, hst3]; with_reducible rfl)))
    have x4 : Ext H3 (H3 ++ [AObj.cells true 0 [.int .i64 (timeL l i), .int .i64 th]]) := (Ext.refl H3).app _
    have ho4 := ho3.app [AObj.cells true 0 [.int .i64 (timeL l i), .int .i64 th]]
    have m7 : (H3 ++ [AObj.cells true 0 [.int .i64 (timeL l i), .int .i64 th]])[H3.length]? = some (.cells true 0 [.int .i64 (timeL l i), .int .i64 th]) := at_new
    generalize (H3 ++ [AObj.cells true 0 [.int .i64 (timeL l i), .int .i64 th]] : AHeap) = H4 at x4 ho4 m7
    have x34 := x3.trans x4
    have x14 := x2.trans x34
    have m0 := x34.cell j0
    have m1 := x34.cell j1
    have l2 : loadNR 2 (.pointer (some ⟨H3.length, 0, none⟩)) H4 = some (fracV (timeL l i, th), H4) := loadN_at m7 (by simp)
    ((repeat (first | refine ya (by (with_reducible constructor) <;> first | rfl | decide) ?_ | apply yb | refine yc rfl ?_ | ((first | apply yd | apply ye); simp (disch := first | exact List.all_nil | omega | (simp only [go_sem]; done) | (simp only [ln, List.length_map]; omega) | (repeat' first | assumption | exact Ext.refl _ | refine Ext.app ?_ _)) only [go_sem, l2, n1_at m1]; with_reducible rfl))))
    refine adraw_call (N := []) (firstD (rTimeAt_c (n := (i : Int)) (hl2.ext x34) hok (by omega) (by omega))) ?_
    rw [List.append_nil, etl, hth]
    have eE := fun J : AHeap => ne_pair (p := (timeL l i, th)) (q := (timeL l i, th)) (H := J) rfl
    ((repeat (first | refine ya (by (with_reducible constructor) <;> first | rfl | decide) ?_ | apply yb | refine yc rfl ?_ | ((first | apply yd | apply ye); simp (disch := first | exact List.all_nil | omega | (simp only [go_sem]; done) | (simp only [ln, List.length_map]; omega) | (repeat' first | assumption | exact Ext.refl _ | refine Ext.app ?_ _)) only [go_sem, eE]; with_reducible rfl))))
    refine cond_f rfl ?_
    have hpush := ho4.push (by rw [tapeL_len]; omega) (f i)
    ((repeat (first | refine ya (by (with_reducible constructor) <;> first | rfl | decide) ?_ | apply yb | refine yc rfl ?_ | ((first | apply yd | apply ye); simp (disch := first | exact List.all_nil | omega | (simp only [go_sem]; done) | (simp only [ln, List.length_map]; omega) | (repeat' first | assumption | exact Ext.refl _ | refine Ext.app ?_ _)) only [go_sem, ld2 H4 m0, ld3 H4 m0, load_at m7]; with_reducible rfl))))
    refine adraw_call (N := []) (firstD (bfloorL_c _ _ (by omega) (by omega))) ?_
    rw [List.append_nil]
    ((repeat (first | refine ya (by (with_reducible constructor) <;> first | rfl | decide) ?_ | apply yb | refine yc rfl ?_ | ((first | apply yd | apply ye); simp (disch := first | exact List.all_nil | omega | (simp only [go_sem]; done) | (simp only [ln, List.length_map]; omega) | (repeat' first | assumption | exact Ext.refl _ | refine Ext.app ?_ _)) only [go_sem, ← hb.2.1, hpush]; with_reducible rfl))))
    have hpd : OwnI G1 (pushH H4 ov (tapeL l start rise i) (f i)) (tapeL l start rise i ++ [f i]) (pushV H4 (tapeL l start rise i).length) := ho4.pushed x14 (f i)
    have hpx : Ext G1 (pushH H4 ov (tapeL l start rise i) (f i)) := ho4.ext x14 (f i)
    have ets : tapeL l start rise i ++ [f i] = tapeL l start rise (i + 1) := by rw [tapeL_succ, hf]
    rw [ets] at hpd
    generalize pushH H4 ov (tapeL l start rise i) (f i) = H5 at hpd hpx ⊢
    generalize pushV H4 (tapeL l start rise i).length = pv at hpd ⊢
    have hpl : (tapeL l start rise (i + 1)).length = i + 1 := tapeL_len
    have hI := hpd.ints
    refine cond_p rfl (fun hlt => ?_) (fun hge => ?_)
    · have ei : (i : Int) - 1 = ((i - 1 : Nat) : Int) := by omega
      have e1 : (tapeL l start rise (i + 1)).getD i 0 = f i := by rw [tapeL_getD (by omega), hf]
      have e2 : (tapeL l start rise (i + 1)).getD (i - 1) 0 = f (i - 1) := by rw [tapeL_getD (by omega), hf]
      have hb2 := hfb (i - 1) (by omega)
      have es : max (steepL f i) (max (f i - f (i - 1)) (-(f i - f (i - 1)))) = steepL f (i + 1) := by
        show _ = if 0 < i then max (steepL f i) (max (f i - f (i - 1)) (-(f i - f (i - 1)))) else steepL f i
        rw [if_pos (by omega)]
      ((repeat (first | refine ya (by (with_reducible constructor) <;> first | rfl | decide) ?_ | apply yb | refine yc rfl ?_ | ((first | apply yd | apply ye); simp (disch := first | exact List.all_nil | omega | (simp only [go_sem]; done) | (simp only [ln, List.length_map]; omega) | (repeat' first | assumption | exact Ext.refl _ | refine Ext.app ?_ _)) only [go_sem, hI.len, hI.idx, hI.load, ei, e1, e2]; with_reducible rfl))))
      refine adraw_call (N := []) (firstD (bsize_c _ (by omega))) ?_
      rw [List.append_nil]
      ((repeat (first | refine ya (by (with_reducible constructor) <;> first | rfl | decide) ?_ | apply yb | refine yc rfl ?_ | ((first | apply yd | apply ye); simp (disch := first | exact List.all_nil | omega | (simp only [go_sem]; done) | (simp only [ln, List.length_map]; omega) | (repeat' first | assumption | exact Ext.refl _ | refine Ext.app ?_ _)) only [go_sem, es]; with_reducible rfl))))
      exact ⟨by omega, pv, by simp [forget], hpx, hpd, by omega⟩
    · have es : steepL f (i + 1) = steepL f i := by
        show (if 0 < i then max (steepL f i) (max (f i - f (i - 1)) (-(f i - f (i - 1)))) else steepL f i) = _
        rw [if_neg (by omega)]
      ((repeat (first | refine ya (by (with_reducible constructor) <;> first | rfl | decide) ?_ | apply yb | refine yc rfl ?_ | ((first | apply yd | apply ye); simp (disch := first | exact List.all_nil | omega | (simp only [go_sem]; done) | (simp only [ln, List.length_map]; omega) | (repeat' first | assumption | exact Ext.refl _ | refine Ext.app ?_ _)) only [go_sem]; with_reducible rfl))))
      exact ⟨by omega, pv, by rw [es]; simp [forget], hpx, hpd, by omega⟩
  · obtain rfl : i = P + 1 := by omega
    ((repeat (first | refine ya (by (with_reducible constructor) <;> first | rfl | decide) ?_ | apply yb | refine yc rfl ?_ | ((first | apply yd | apply ye); simp (disch := first | exact List.all_nil | omega | (simp only [go_sem]; done) | (simp only [ln, List.length_map]; omega) | (repeat' first | assumption | exact Ext.refl _ | refine Ext.app ?_ _)) only [go_sem, dec_f (show ¬ ((P + 1 : Nat) : Int) ≤ (l.getD (l.length - 1) (0, 0)).1 by omega)]; with_reducible rfl))))
    refine cond_f rfl ?_
    have hxl : (tapeL l start rise (P + 1)).length = P + 1 := tapeL_len
    have hX2 := ho2.ints
    ((repeat (first | refine ya (by (with_reducible constructor) <;> first | rfl | decide) ?_ | apply yb | refine yc rfl ?_ | ((first | apply yd | apply ye); simp (disch := first | exact List.all_nil | omega | (simp only [go_sem]; done) | (simp only [ln, List.length_map]; omega) | (repeat' first | assumption | exact Ext.refl _ | refine Ext.app ?_ _)) only [go_sem]; with_reducible rfl))))
    refine aops_call_to (refSignalErr_c hX2 (by omega)) ?_
    by_cases hsg : signalErrL (tapeL l start rise (P + 1)) = 0
    rotate_left 1
    · ((repeat (first | refine ya (by (with_reducible constructor) <;> first | rfl | decide) ?_ | apply yb | refine yc rfl ?_ | ((first | apply yd | apply ye); simp (disch := first | exact List.all_nil | omega | (simp only [go_sem]; done) | (simp only [ln, List.length_map]; omega) | (repeat' first | assumption | exact Ext.refl _ | refine Ext.app ?_ _)) only [go_sem, dec_t (show signalErrL (tapeL l start rise (P + 1)) ≠ 0 from hsg)]; with_reducible rfl))))
      refine cond_t rfl ?_
      ((repeat (first | refine ya (by (with_reducible constructor) <;> first | rfl | decide) ?_ | apply yb | refine yc rfl ?_ | ((first | apply yd | apply ye); simp (disch := first | exact List.all_nil | omega | (simp only [go_sem]; done) | (simp only [ln, List.length_map]; omega) | (repeat' first | assumption | exact Ext.refl _ | refine Ext.app ?_ _)) only [go_sem]; with_reducible rfl))))
      exact fin_1 rfl
    obtain ⟨s1, s2⟩ := signalErr_ok hsg
    have hN0 : (curveN l step : Int) = (l.getD (l.length - 1) (0, 0)).2 / step + 1 := by
      have e1 : tEL l = (l.getD (l.length - 1) (0, 0)).2 := rfl
      have e2 : t0L l = 0 := by unfold t0L; rw [h00]
      unfold curveN
      rw [e1, e2, Int.sub_zero]
      have := Int.ediv_nonneg pE.1 (show 0 ≤ step by omega)
      omega
    have hnear := fun k (hk : k < curveN l step) => back_near hok hPn h00 hs.1 hr s2 hk
    have hres := back_res (x := tapeL l start rise (P + 1)) hok ⟨hs.1, by omega⟩ (by omega) (by rw [hxl, hPn]; omega) hsg
    rw [← hf] at hnear
    generalize tapeL l start rise (P + 1) = x at *
    ((repeat (first | refine ya (by (with_reducible constructor) <;> first | rfl | decide) ?_ | apply yb | refine yc rfl ?_ | ((first | apply yd | apply ye); simp (disch := first | exact List.all_nil | omega | (simp only [go_sem]; done) | (simp only [ln, List.length_map]; omega) | (repeat' first | assumption | exact Ext.refl _ | refine Ext.app ?_ _)) only [go_sem, hsg]; with_reducible rfl))))
    refine cond_f rfl ?_
    ((repeat (first | refine ya (by (with_reducible constructor) <;> first | rfl | decide) ?_ | apply yb | refine yc rfl ?_ | ((first | apply yd | apply ye); simp (disch := first | exact List.all_nil | omega | (simp only [go_sem]; done) | (simp only [ln, List.length_map]; omega) | (repeat' first | assumption | exact Ext.refl _ | refine Ext.app ?_ _)) only [go_sem, ld1 H2 j0, n1_at j1]; with_reducible rfl))))
    refine adraw_call (copyMap_c hl2 (by omega)) ?_
    have hC : Pairs (H2 ++ [.cells true 2 (flatP l)]) l (.slice (some ⟨H2.length, 0, none⟩) l.length l.length) := Pairs.last l.length
    have x3 : Ext H2 (H2 ++ [AObj.cells true 2 (flatP l)]) := (Ext.refl H2).app _
    generalize (H2 ++ [AObj.cells true 2 (flatP l)] : AHeap) = H3 at hC x3
    obtain ⟨w, hw⟩ : ∃ w, w = Value.slice (some ⟨H2.length, 0, none⟩) l.length l.length := ⟨_, rfl⟩
    have hwa : isAtom w = true := by rw [hw]; rfl
    rw [← hw] at hC ⊢
    have hfl : ∀ a b c d e : Value, fillA [a, b, c, d, e, .slice none 0 0] [(5, 1, .agg ⟨[w]⟩)] = some [a, b, c, d, e, w] := fun a b c d e => by
      have e1 : (Value.agg ⟨[w]⟩).cells = ⟨[w]⟩ := rfl
      simp [fillA, e1, hwa, setCells]
    have hX3 := hX2.ext x3
    ((repeat (first | refine ya (by (with_reducible constructor) <;> first | rfl | decide) ?_ | apply yb | refine yc rfl ?_ | ((first | apply yd | apply ye); simp (disch := first | exact List.all_nil | omega | (simp only [go_sem]; done) | (simp only [ln, List.length_map]; omega) | (repeat' first | assumption | exact Ext.refl _ | refine Ext.app ?_ _)) only [go_sem, hfl]; with_reducible rfl))))
    refine adraw_call (copyInts_c hX3 (by omega)) ?_
    have hXc : Ints (H3 ++ [.cells true 1 (x.map (.int .i64))]) x (.slice (some ⟨H3.length, 0, none⟩) x.length x.length) := Ints.last x.length
    have x4 : Ext H3 (H3 ++ [AObj.cells true 1 (x.map (.int .i64))]) := (Ext.refl H3).app _
    generalize (H3 ++ [AObj.cells true 1 (x.map (.int .i64))] : AHeap) = H4 at hXc x4
    have x24 := x3.trans x4
    have hcall := resampled_c (kind := 1) (deg := 1) (num := 0) (den := 0) (step := step) ((hx1.trans x2).trans x24) (hC.ext x4) (by omega) hXc (by omega)
    rw [hres] at hcall
    ((repeat (first | refine ya (by (with_reducible constructor) <;> first | rfl | decide) ?_ | apply yb | refine yc rfl ?_ | ((first | apply yd | apply ye); simp (disch := first | exact List.all_nil | omega | (simp only [go_sem]; done) | (simp only [ln, List.length_map]; omega) | (repeat' first | assumption | exact Ext.refl _ | refine Ext.app ?_ _)) only [go_sem]; with_reducible rfl))))
    refine adraw_call hcall ?_
    have hY : Ints (H4 ++ retN 1 ((outTo (curveF l step) (curveN l step)).map (yL 1 x)).length (((outTo (curveF l step) (curveN l step)).map (yL 1 x)).map (.int .i64))) ((outTo (curveF l step) (curveN l step)).map (yL 1 x)) (retV H4 ((outTo (curveF l step) (curveN l step)).map (yL 1 x)).length) := Ints.ret
    have x5 : Ext H4 (H4 ++ retN 1 ((outTo (curveF l step) (curveN l step)).map (yL 1 x)).length (((outTo (curveF l step) (curveN l step)).map (yL 1 x)).map (.int .i64))) := ⟨_, rfl⟩
    dsimp only
    have hQl : ((outTo (curveF l step) (curveN l step)).map (yL 1 x)).length = curveN l step := by rw [List.length_map, outTo_len]
    have hQi : ∀ k : Nat, k < curveN l step → ((outTo (curveF l step) (curveN l step)).map (yL 1 x)).getD k 0 = yL 1 x (curveF l step k) := fun k hk => by
      unfold outTo
      rw [List.map_map, List.getD_eq_getElem?_getD, List.getElem?_map, List.getElem?_range hk]; rfl
    generalize (outTo (curveF l step) (curveN l step)).map (yL 1 x) = Q at hY x5 hQl hQi ⊢
    generalize (H4 ++ retN 1 Q.length (Q.map (.int .i64)) : AHeap) = H5 at hY x5 ⊢
    generalize retV H4 Q.length = ys at hY ⊢
    have x25 := x24.trans x5
    have i0 := x25.cell j0
    have i1 := x25.cell j1
    have hl5 := hl2.ext x25
    generalize curveN l step = n at *
    ((repeat (first | refine ya (by (with_reducible constructor) <;> first | rfl | decide) ?_ | apply yb | refine yc rfl ?_ | ((first | apply yd | apply ye); simp (disch := first | exact List.all_nil | omega | (simp only [go_sem]; done) | (simp only [ln, List.length_map]; omega) | (repeat' first | assumption | exact Ext.refl _ | refine Ext.app ?_ _)) only [go_sem]; with_reducible rfl))))
    ((repeat (first | refine ya (by (with_reducible constructor) <;> first | rfl | decide) ?_ | apply yb | refine yc rfl ?_ | ((first | apply yd | apply ye); simp (disch := first | exact List.all_nil | omega | (simp only [go_sem]; done) | (simp only [ln, List.length_map]; omega) | (repeat' first | assumption | exact Ext.refl _ | refine Ext.app ?_ _)) only [go_sem, hY.len, hY.idx, hY.load, n1_at i1]; with_reducible rfl))))
    refine adraw_call (N := []) (firstD (rLast_c hl5 (by omega) (by omega))) ?_
    rw [List.append_nil]
    ((repeat (first | refine ya (by (with_reducible constructor) <;> first | rfl | decide) ?_ | apply yb | refine yc rfl ?_ | ((first | apply yd | apply ye); simp (disch := first | exact List.all_nil | omega | (simp only [go_sem]; done) | (simp only [ln, List.length_map]; omega) | (repeat' first | assumption | exact Ext.refl _ | refine Ext.app ?_ _)) only [go_sem, ld1 H5 i0, a_quo (show step ≠ 0 by omega), eqT, dec_f (show ¬ (Q.length : Int) ≠ (l.getD (l.length - 1) (0, 0)).2 / step + 1 by omega)]; with_reducible rfl))))
    refine cond_f rfl ?_
    ((repeat (first | refine ya (by (with_reducible constructor) <;> first | rfl | decide) ?_ | apply yb | refine yc rfl ?_ | ((first | apply yd | apply ye); simp (disch := first | exact List.all_nil | omega | (simp only [go_sem]; done) | (simp only [ln, List.length_map]; omega) | (repeat' first | assumption | exact Ext.refl _ | refine Ext.app ?_ _)) only [go_sem]; with_reducible rfl))))
    refine awp_loop_n [false, true, false, false, false, true, false, false, false, true, false, true, false, false, false, false, false, false, false, false, false, false, false, false, false, false, false, false, false, false, false, false, false, false, false, false, false, false, false, false, false, false, false, false, false, false, false, false, false, false, false, false, false, false, false, false, false, false, false, false, false, false, false, false, false, false, false, false, false, false, false, false, false, false, false, false, false, false, false, false, false, false, false, false, false, false, false, false, false, false, false, false, false, false, false, false, false, false, false, false, false, false, false, false, false, false, false, false, false, false, false, false, false, false, false, false, false, false, false, false, false, false, false, false, false, false, false, false, false, false, false, false, false, false, false, false, false, false, false, false, false, false, false, false, false, false, false, false, false, false, false, false, false, false, false, false, false, false, false, false, false, false, false, false, false, false, false, false, false, false, false, false, false, false, false, false, false, false, false, false, false, false, false, false, false, false, false] n (fun k e H' => H5 = H' ∧ e = [junk, .pointer (some ⟨H.length, 0, none⟩), junk, junk, junk, .int .i64 (steepL f (P + 1)), junk, junk, junk, ys, junk, .int .i64 k, junk, junk, junk, junk, junk, junk, junk, junk, junk, junk, junk, junk, junk, junk, junk, junk, junk, junk, junk, junk, junk, junk, junk, junk, junk, junk, junk, junk, junk, junk, junk, junk, junk, junk, junk, junk, junk, junk, junk, junk, junk, junk, junk, junk, junk, junk, junk, junk, junk, junk, junk, junk, junk, junk, junk, junk, junk, junk, junk, junk, junk, junk, junk, junk, junk, junk, junk, junk, junk, junk, junk, junk, junk, junk, junk, junk, junk, junk, junk, junk, junk, junk, junk, junk, junk, junk, junk, junk, junk, junk, junk, junk, junk, junk, junk, junk, junk, junk, junk, junk, junk, junk, junk, junk, junk, junk, junk, junk, junk, junk, junk, junk, junk, junk, junk, junk, junk, junk, junk, junk, junk, junk, junk, junk, junk, junk, junk, junk, junk, junk, junk, junk, junk, junk, junk, junk, junk, junk, junk, junk, junk, junk, junk, junk, junk, junk, junk, junk, junk, junk, junk, junk, junk, junk, junk, junk, junk, junk, junk, junk, junk, junk, junk, junk, junk, junk, junk, junk, junk, junk, junk, junk, junk, junk, junk]) ?_ ?_
    · exact ⟨rfl, by simp [forget]⟩
    rintro k e H' hk ⟨rfl, rfl⟩
    ((repeat (first | refine ya (by (with_reducible constructor) <;> first | rfl | decide) ?_ | apply yb | refine yc rfl ?_ | ((first | apply yd | apply ye); simp (disch := first | exact List.all_nil | omega | (simp only [go_sem]; done) | (simp only [ln, List.length_map]; omega) | (repeat' first | assumption | exact Ext.refl _ | refine Ext.app ?_ _)) only [go_sem, hY.len, hY.idx, hY.load]; with_reducible rfl))))
    refine cond_p rfl (fun hlt => ?_) (fun hge => ?_)
    · have hk' : k < n := by omega
      have hn := hnear k hk'
      have hq := hQi k hk'
      have mb1 := mul_abs (x := rise) (y := (k : Int)) (a := 64) (b := 400) ⟨by omega, by omega⟩ ⟨by omega, by omega⟩
      have mb2 := mul_abs (x := rise * (k : Int)) (y := step) (a := 25600) (b := 1000) ⟨by omega, by omega⟩ ⟨by omega, by omega⟩
      have ea : rise * ((k : Int) * step) = rise * (k : Int) * step := (Int.mul_assoc _ _ _).symm
      rw [ea] at hn
      have fb := ediv_bound (n := rise * (k : Int) * step) (b := 64) (m := 25600000) (by omega) ⟨by omega, by omega⟩
      have est : (steepL f (P + 1)).tdiv 64 = steepL f (P + 1) / 64 := Int.tdiv_eq_ediv_of_nonneg hst2.1
      have esz : (max rise (-rise)).tdiv 64 = max rise (-rise) / 64 := Int.tdiv_eq_ediv_of_nonneg (by omega)
      have hyb := y_in 1 x (curveF l step k)
      ((repeat (first | refine ya (by (with_reducible constructor) <;> first | rfl | decide) ?_ | apply yb | refine yc rfl ?_ | ((first | apply yd | apply ye); simp (disch := first | exact List.all_nil | omega | (simp only [go_sem]; done) | (simp only [ln, List.length_map]; omega) | (repeat' first | assumption | exact Ext.refl _ | refine Ext.app ?_ _)) only [go_sem, ld1 H5 i0, ld2 H5 i0, ld3 H5 i0]; with_reducible rfl))))
      refine adraw_call (N := []) (firstD (bfloorL_c _ _ (by omega) (by omega))) ?_
      rw [List.append_nil]
      ((repeat (first | refine ya (by (with_reducible constructor) <;> first | rfl | decide) ?_ | apply yb | refine yc rfl ?_ | ((first | apply yd | apply ye); simp (disch := first | exact List.all_nil | omega | (simp only [go_sem]; done) | (simp only [ln, List.length_map]; omega) | (repeat' first | assumption | exact Ext.refl _ | refine Ext.app ?_ _)) only [go_sem, a_quo (show (64 : Int) ≠ 0 by decide), est, ld3 H5 i0]; with_reducible rfl))))
      refine aops_call_to (bsize_c _ (by omega)) ?_
      ((repeat (first | refine ya (by (with_reducible constructor) <;> first | rfl | decide) ?_ | apply yb | refine yc rfl ?_ | ((first | apply yd | apply ye); simp (disch := first | exact List.all_nil | omega | (simp only [go_sem]; done) | (simp only [ln, List.length_map]; omega) | (repeat' first | assumption | exact Ext.refl _ | refine Ext.app ?_ _)) only [go_sem, hY.len, hY.idx, hY.load, a_quo (show (64 : Int) ≠ 0 by decide), esz, hq]; with_reducible rfl))))
      refine aops_call_to (bwithin_c _ _ _) ?_
      ((repeat (first | refine ya (by (with_reducible constructor) <;> first | rfl | decide) ?_ | apply yb | refine yc rfl ?_ | ((first | apply yd | apply ye); simp (disch := first | exact List.all_nil | omega | (simp only [go_sem]; done) | (simp only [ln, List.length_map]; omega) | (repeat' first | assumption | exact Ext.refl _ | refine Ext.app ?_ _)) only [go_sem, dec_t (show start + rise * (k : Int) * step / 64 - (5 + steepL f (P + 1) / 64 + max rise (-rise) / 64) ≤ yL 1 x (curveF l step k) ∧ yL 1 x (curveF l step k) ≤ start + rise * (k : Int) * step / 64 + (5 + steepL f (P + 1) / 64 + max rise (-rise) / 64) by omega)]; with_reducible rfl))))
      refine cond_f rfl ?_
      ((repeat (first | refine ya (by (with_reducible constructor) <;> first | rfl | decide) ?_ | apply yb | refine yc rfl ?_ | ((first | apply yd | apply ye); simp (disch := first | exact List.all_nil | omega | (simp only [go_sem]; done) | (simp only [ln, List.length_map]; omega) | (repeat' first | assumption | exact Ext.refl _ | refine Ext.app ?_ _)) only [go_sem]; with_reducible rfl))))
      exact ⟨by omega, rfl, by simp [forget]⟩
    · obtain rfl : k = n := by omega
      ((repeat (first | refine ya (by (with_reducible constructor) <;> first | rfl | decide) ?_ | apply yb | refine yc rfl ?_ | ((first | apply yd | apply ye); simp (disch := first | exact List.all_nil | omega | (simp only [go_sem]; done) | (simp only [ln, List.length_map]; omega) | (repeat' first | assumption | exact Ext.refl _ | refine Ext.app ?_ _)) only [go_sem]; with_reducible rfl))))
      exact fin_1 rfl
end Go.Lq

namespace Go.Lq
open Go Go.ChangeShapes Go.WideShapes Go.ChangeAt Go.RowKit
open Go.Proofs

set_option maxRecDepth 100000 in
theorem lifted9 (os : Os) (started : os.Started) (X : Type) (enc : TypeId × Value → X) :
    ReturnsInHanded {} Tryd.checked os 9 .any (fun w args => (YtlcfgealkjomnaaDoor.Rows.topResampleBackSpec.pre enc Tryd.prog Tryd.f9 [] false w args ∧ laidMetH Tryd.prog laidAll w) ∧ sizedMet enc Tryd.prog Tryd.f9 (OpenSpec.ofChange YtlcfgealkjomnaaDoor.Rows.topResampleBackSpec) false w args)
      (YtlcfgealkjomnaaDoor.Rows.topResampleBackSpec.post enc Tryd.prog Tryd.f9 false true false false) := by
  refine returnsInHanded_of_change_shaped (C := Tryd.checked) (X := fun w _ => laidMetH Tryd.prog laidAll w) (fun _ _ _ hh h => h.of_heap hh) own_knob started (by kernel_rfl) Tryd.func9
    (ChangeSpec.witness_shaped (enc := enc) (C := Tryd.checked) (os := os) (X := fun w _ => laidMetH Tryd.prog laidAll w) false (World.doorLaid Tryd.prog 400 os) #[.agg #[.slice none 0 0, .int .i64 0, .int .i64 0, .int .i64 0]] 12 rfl (door_shaped os _) (by kernel_rfl) (by kernel_rfl) (by kernel_rfl) (door_met os _)) ?_
  intro W base args ds gs before hsh hval hW hL
  have hWw := hW
  obtain ⟨p, q, hA, _⟩ := hW
  refine (calls_of_law (d := 20) (of_laid hL hsh) globs glob_at hA (fun j t v h1 h2 => hval j t v (by simpa using h1) (by simpa using h2)) (by kernel_rfl) fun H avs hx h => ?_).mono fun e W' ⟨he, hB⟩ => ?_
  · exact law9 hx (by rw [show Tryd.f9.params = #[69] from Tryd.params9] at h; exact h)
  · subst he
    exact ⟨_, rfl, law_post (bt := 4) laid_out rfl Tryd.underlying4 (by kernel_rfl) (by kernel_rfl) hWw (fun ds hd => by
      rw [show Tryd.f9.params = #[69] from Tryd.params9] at hd
      match ds, hd with
      | [a], _ => rfl) hB⟩

theorem unf9 : Tryd.prog.unfollowed 9 = true := by kernel_rfl
theorem rec9 : Tryd.prog.recurses 9 = true := by kernel_rfl
theorem named9 : Tryd.prog.varsNamed 9 = YtlcfgealkjomnaaDoor.Rows.topResampleBackRow.named := by kernel_rfl
theorem facts9 : joinedFacts Tryd.prog 9 Tryd.f9 YtlcfgealkjomnaaDoor.Rows.topResampleBackSpec YtlcfgealkjomnaaDoor.Rows.topResampleBackRow = true := by
  unfold joinedFacts
  rw [may_enter, stops_heard, maps_rowed, laid_out, lifts_final, make_is, unf9, rec9, named9]
  kernel_rfl
theorem holds9 : YtlcfgealkjomnaaDoor.Rows.TopResampleBackSaid :=
  OpenClaim.holds_of_wide 9 Tryd.f9 rfl rfl rfl rfl rfl rfl rfl ⟨rfl, rfl, rfl, rfl, rfl⟩ rfl rfl rfl rfl rfl (by kernel_rfl) Tryd.func9 facts9
    (of_decide_eq_true (by kernel_rfl)) (by unfold Func.isWrapper; first | (rw [if_pos (by decide +kernel)]; kernel_rfl) | (rw [if_neg (by decide +kernel)]; exact ⟨rfl, rfl⟩))
    (fun os started H enc _ => lifted9 os started H enc)
end Go.Lq
namespace Go.Proofs.YtlcfgealkjomnaaDoor
open Go Go.Lq
theorem topResampleBack_proved : Rows.TopResampleBackCardSaid :=
  Claim7.holds_tied_plain_at .later [] [.funcs] true (true, "9403e86e1dc287bd0cb4ee71274230f6f4c5733d4f08721e5e779bfd75daaf91") false
    holds9 (fun _ h => by cases h) (by kernel_rfl) (fun _ h => by cases h) topResampleBack_row_tie rfl ⟨rfl, rfl⟩ main_is rfl
    (fun f fn hf hfn => by
      obtain rfl : f = 9 := Option.some.inj ((show Tryd.prog.funcNamed "lacquer/lacquertop.TopResampleBack" = some 9 by kernel_rfl).symm.trans hf) |>.symm
      obtain rfl : fn = Tryd.f9 := (Option.some.inj (Tryd.func9.symm.trans hfn)).symm
      exact ⟨looks0, fun j t ht => by
        rw [Tryd.params9] at ht
        have hm : t ∈ [69] := by simpa using Array.mem_of_getElem? ht
        have hall : ([69].all fun u => !Tryd.prog.wantsStandIn u) = true := by kernel_rfl
        exact (show Tryd.prog.wantsStandIn t = false by simpa using List.all_eq_true.1 hall t hm)⟩)
    (by kernel_rfl)
end Go.Proofs.YtlcfgealkjomnaaDoor
