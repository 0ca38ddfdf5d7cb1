/- SpeedSteady is proved: for every input that can be read the law returns true, and each argument reads afterwards as it read before; nothing is asked of package variables. -/
import Derived.Test.YteimgikhanhgiaaV163
set_option linter.unusedSimpArgs false
set_option linter.unnecessarySimpa false
set_option linter.unusedVariables false
set_option linter.unusedSectionVars false
set_option maxRecDepth 100000
namespace Go.Lq
open Go
open Go.Proofs

def dPos (l : List (Int × Int)) (i : Nat) : Int := (l.getD (i + 1) (0, 0)).1 - (l.getD i (0, 0)).1
def dTim (l : List (Int × Int)) (i : Nat) : Int := (l.getD (i + 1) (0, 0)).2 - (l.getD i (0, 0)).2
def RateTo (s f : Int) (l : List (Int × Int)) (n : Nat) : Prop := ∀ i, i < n → i + 1 < l.length → s * dPos l i ≤ dTim l i ∧ dTim l i ≤ f * dPos l i
theorem RateTo.zero {s f : Int} {l : List (Int × Int)} : RateTo s f l 0 := fun i h => by omega
theorem RateTo.step {s f : Int} {l : List (Int × Int)} {n : Nat} (h : RateTo s f l n) (hm : MapOk l) (hn : n + 1 < l.length) : RateTo (min s (dTim l n / dPos l n)) (max f (-(-dTim l n / dPos l n))) l (n + 1) := by
  intro i hi hl
  have hp : 0 < dPos l i := by have := hm.posUp i hl; unfold dPos; omega
  have up : ∀ a b : Int, a ≤ b → a * dPos l i ≤ b * dPos l i := fun a b hab => Int.mul_le_mul_of_nonneg_right hab (by omega)
  by_cases e : i = n
  · subst e
    have u1 := up _ _ (show min s (dTim l i / dPos l i) ≤ dTim l i / dPos l i by omega)
    have u2 := up _ _ (show -(-dTim l i / dPos l i) ≤ max f (-(-dTim l i / dPos l i)) by omega)
    have e1 := Int.ediv_mul_le (dTim l i) (show dPos l i ≠ 0 by omega)
    have e2 := Int.ediv_mul_le (-dTim l i) (show dPos l i ≠ 0 by omega)
    rw [Int.neg_mul] at u2
    omega
  · have h1 := h i (by omega) hl
    have u1 := up _ _ (show min s (dTim l n / dPos l n) ≤ s by omega)
    have u2 := up _ _ (show f ≤ max f (-(-dTim l n / dPos l n)) by omega)
    omega
theorem RateTo.ok {s f : Int} {l : List (Int × Int)} {n : Nat} (h : RateTo s f l n) (hn : l.length ≤ n + 1) : RateOk (s, f) l := fun i hi => h i (by omega) hi
theorem tones_at {A D : Int × Int} {K : List Int} {n j : Nat} (h : j < n) : (tonesTo A D K n).getD j (0, 0, 0) = toneM A D K j := by
  unfold tonesTo
  rw [List.getD_eq_getElem?_getD, List.getElem?_map, List.getElem?_range h]; rfl
theorem steady_acc {L A D : Int × Int} {K : List Int} {l : List (Int × Int)} (hm : MapOk l) (hr : RateOk L l)
    (hM : ∀ j, j < K.length → ((l.getD 0 (0, 0)).1 ≤ K.getD j 0 ∧ K.getD j 0 ≤ (l.getD (l.length - 1) (0, 0)).1) ∧ (toneM A D K j).2.1 ≤ mapTimLo l (K.getD j 0) ∧ mapTimHi l (K.getD j 0) ≤ (toneM A D K j).2.2) :
    accGo L (tonesTo A D K K.length) l = (0, 0) := by
  refine accGo_zero hr fun j hj => ?_
  rw [tonesTo_len] at hj
  have e : mP (tonesTo A D K K.length) j = K.getD j 0 := by unfold mP; rw [tones_at hj]; rfl
  rw [e, tones_at hj]
  obtain ⟨h1, h2, h3⟩ := hM j hj
  refine ⟨h1, meets_iff.2 ?_⟩
  have hlo := hm.lo
  obtain ⟨b1, _⟩ := atPos_in (l := l) (t := K.getD j 0) (k := l.length - 2) (i := 0) (by omega) h1.1
  have hp : (pieceP l (K.getD j 0)).1.1 < (pieceP l (K.getD j 0)).2.1 := (hm.piece b1).pos
  constructor
  · show atLeast (pieceP l (K.getD j 0)) (K.getD j 0) _
    rw [least_lo hp]; exact h2
  · show atMost (pieceP l (K.getD j 0)) (K.getD j 0) _
    rw [most_hi hp]; exact h3
theorem steady_calm {L A D : Int × Int} {K : List Int} {l : List (Int × Int)} (hm : MapOk l) (hk : EvOk L (tonesTo A D K K.length)) (h : accGo L (tonesTo A D K K.length) l = (0, 0)) : clashL L (tonesTo A D K K.length) = none :=
  clashL_none.2 ((AccOk.of hm (by rw [h])).noClash hk)
section
variable {G : AHeap} {id : Nat} {A D : Int × Int} {k : Value}
theorem store_tA {a b : Int} (h : G[id]? = some (.cells true 0 (toneC A D k))) : storeR 2 (.pointer (some ⟨id, 0, none⟩)) (.agg ⟨[.int .i64 a, .int .i64 b]⟩) G = some (undef, G.set id (.cells true 0 (toneC (a, b) D k))) := by
  have e3 : setCells (toneC A D k) 0 [.int .i64 a, .int .i64 b] = toneC (a, b) D k := rfl
  simp only [storeR, Value.cells, List.size_toArray, storeAt, h, e3, List.length_cons, List.length_nil]
  rfl
theorem store_tD {a b : Int} (h : G[id]? = some (.cells true 0 (toneC A D k))) : storeR 2 (.pointer (some ⟨id, 2, none⟩)) (.agg ⟨[.int .i64 a, .int .i64 b]⟩) G = some (undef, G.set id (.cells true 0 (toneC A (a, b) k))) := by
  have e3 : setCells (toneC A D k) 2 [.int .i64 a, .int .i64 b] = toneC A (a, b) k := rfl
  simp only [storeR, Value.cells, List.size_toArray, storeAt, h, e3, List.length_cons, List.length_nil]
  rfl
end
end Go.Lq

namespace Go.Lq
open Go
open Go.Proofs

set_option maxRecDepth 100000 in
theorem repHeard {H : AHeap} {v : Value} (h : RepA Try.prog H 106 v) : ∃ s a b l, v = .agg ⟨[s, .int .i64 a, .int .i64 b]⟩ ∧ Pairs H l s ∧ l.length ≤ maxLen := by
  obtain ⟨acs, rfl, hr⟩ := h.struct Try.underlying106
  obtain ⟨hl, hf⟩ := hr.struct_inv Try.underlying106
  rw [show Try.prog.cellsOf 106 = 3 by kernel_rfl] at hl
  match acs, hl with
  | [s, b, c], _ =>
    have h0 : Rep Try.prog H 42 (([s, b, c].drop 0).take (Try.prog.cellsOf 42)) := hf 0 _ rfl
    have h1 : Rep Try.prog H 3 (([s, b, c].drop 1).take (Try.prog.cellsOf 3)) := hf 1 _ rfl
    have h2 : Rep Try.prog H 3 (([s, b, c].drop 2).take (Try.prog.cellsOf 3)) := hf 2 _ rfl
    rw [cells3] at h1 h2
    rw [show Try.prog.cellsOf 42 = 1 by kernel_rfl] at h0
    obtain ⟨n1, e1, _⟩ := h1.int_inv Try.underlying3
    obtain ⟨n2, e2, _⟩ := h2.int_inv Try.underlying3
    have e1' : [b] = [.int .i64 n1] := e1
    have e2' : [c] = [.int .i64 n2] := e2
    cases e1'; cases e2'
    obtain ⟨l, h6, h7⟩ := repMap (s := s) h0
    exact ⟨s, n1, n2, l, rfl, h6, h7⟩
theorem awp_midX {P : Program} {ar : Option Nat} {R y : RCode} {Qy Qz : AExit → Env → AHeap → Prop} {env : Env} {H : AHeap} (m : List Bool) (I : Env → AHeap → Prop)
    (h1 : AWP P ar R (fun x e' H' => (x = .normal ∧ I (forget m e') H') ∨ (x ≠ .normal ∧ Qz x e' H')) env H) (h2 : ∀ e H, I e H → AWP P ar y Qy e H) : AWP P ar R (Seq (AWP P ar y Qy) Qz) env H :=
  AWP.mono h1 fun x e' H' h => by
    rcases h with ⟨rfl, hI⟩ | ⟨hn, hq⟩
    · exact awp_forget m (h2 _ _ hI)
    · cases x with
      | normal => exact absurd rfl hn
      | ret => exact hq
      | exit id => exact hq
theorem most_max4 {a b c d : Int} {H : AHeap} : mostR true (.int .i64 a) [.int .i64 b, .int .i64 c, .int .i64 d] H = some (.int .i64 (max (max (max a b) c) d), H) := by
  simp only [mostR, mostA, Option.map_some, if_true]
  congr 3
  split <;> split <;> split <;> omega
theorem tn0 : decide ((0 : Int) ≠ 0) = false := by decide
set_option maxRecDepth 100000 in
set_option maxHeartbeats 16000000 in
theorem law16 {H : AHeap} {avs : List Value} (h : RepAll Try.prog H [106, 59] avs) : ACall Try.prog 16 avs H fun v _ => v = .bool true := by
  obtain ⟨a, b, rfl, h1, h2⟩ := h.two
  obtain ⟨u, er, la, l, rfl, hm, hmm⟩ := repHeard h1
  obtain ⟨K, hK, hKm, -⟩ := h2.ints Try.underlying59 Try.underlying3 cells3
  (refine a16 ?_; simp only [n16, List.replicate, yq, yr, yt, yu]; first | refine Go.Lq.q1 ?_ | refine Go.Lq.q2 ?_ | refine Go.Lq.q6 ?_ | refine Go.Lq.q7 ?_ | refine Go.Lq.qh rfl ?_ | skip)
  have g0 : (H ++ [AObj.cells true 0 [u, .int .i64 er, .int .i64 la]])[H.length]? = some (.cells true 0 [u, .int .i64 er, .int .i64 la]) := at_new
  have xG : Ext H (H ++ [AObj.cells true 0 [u, .int .i64 er, .int .i64 la]]) := (Ext.refl H).app _
  have hbx : boxR (.agg ⟨[u, .int .i64 er, .int .i64 la]⟩) H = some (.pointer (some ⟨H.length, 0, none⟩), H ++ [.cells true 0 [u, .int .i64 er, .int .i64 la]]) := box_agg (by simp [hm.atom, isAtom_int])
  (repeat (first | refine yv ?_ | (apply yd; simp (disch := first|exact zz|fail) only [go_sem, hbx]; with_reducible rfl)))
  clear hbx
  generalize (H ++ [AObj.cells true 0 [u, .int .i64 er, .int .i64 la]] : AHeap) = G at g0 xG
  have k0 := hm.ext xG
  have kK := hK.ext xG
  have n1m : ∀ J : AHeap, J[H.length]? = some (.cells true 0 [u, .int .i64 er, .int .i64 la]) → loadNR 1 (.pointer (some ⟨H.length, 0, none⟩)) J = some (.agg ⟨[u]⟩, J) := fun J hJ => loadN_at hJ (by simp)
  (refine yg ?_)
  (refine aops_call_to (awake_c) ?_)
  (refine yg ?_)
  refine cond_f rfl ?_
  (repeat (first | refine yw ?_ | ((first | apply yd | apply ye); simp (disch := first|exact zz|fail) only [go_sem, n1m _ g0]; with_reducible rfl)))
  (refine aops_call_to (few_c k0) ?_)
  by_cases hf : l.length ≤ 22
  rotate_left 1
  · (repeat (first | refine yw ?_ | ((first | apply yd | apply ye); simp (disch := first|exact zz|fail) only [go_sem, dec_f hf]; with_reducible rfl)))
    refine cond_t rfl ?_
    (refine yg ?_)
    exact fin_1 rfl
  (repeat (first | refine yw ?_ | ((first | apply yd | apply ye); simp (disch := first|exact zz|fail) only [go_sem, dec_t hf, n1m _ g0]; with_reducible rfl)))
  (refine aops_call_to (rMapErr_c k0 (by omega)) ?_)
  by_cases hz : mapErrL l = 0
  rotate_left 1
  · (repeat (first | refine yw ?_ | ((first | apply yd | apply ye); simp (disch := first|exact zz|fail) only [go_sem, dec_t (show mapErrL l ≠ 0 from hz)]; with_reducible rfl)))
    refine cond_t rfl ?_
    (refine yg ?_)
    exact fin_1 rfl
  by_cases hK0 : (K.length : Int) = 0
  · (repeat (first | refine yw ?_ | ((first | apply yd | apply ye); simp (disch := first|exact zz|fail) only [go_sem, kK.len, kK.idx, kK.load, dec_f (show ¬ mapErrL l ≠ 0 from fun h => h hz), dec_t hK0]; with_reducible rfl)))
    refine cond_t rfl ?_
    (refine yg ?_)
    exact fin_1 rfl
  by_cases hK1 : (K.length : Int) > 10
  · (repeat (first | refine yw ?_ | ((first | apply yd | apply ye); simp (disch := first|exact zz|fail) only [go_sem, kK.len, kK.idx, kK.load, dec_f (show ¬ mapErrL l ≠ 0 from fun h => h hz), dec_f hK0, dec_t hK1]; with_reducible rfl)))
    refine cond_t rfl ?_
    (refine yg ?_)
    exact fin_1 rfl
  (repeat (first | refine yw ?_ | ((first | apply yd | apply ye); simp (disch := first|exact zz|fail) only [go_sem, kK.len, kK.idx, kK.load, dec_f (show ¬ mapErrL l ≠ 0 from fun h => h hz), dec_f hK0, dec_f hK1, load_at g0]; with_reducible rfl)))
  (refine aops_call_to (bwithin_c _ _ _) ?_)
  by_cases hE : 0 ≤ er ∧ er ≤ 1000
  rotate_left 1
  · (repeat (first | refine yw ?_ | ((first | apply yd | apply ye); simp (disch := first|exact zz|fail) only [go_sem, dec_f hE]; with_reducible rfl)))
    refine cond_t rfl ?_
    (refine yg ?_)
    exact fin_1 rfl
  (repeat (first | refine yw ?_ | ((first | apply yd | apply ye); simp (disch := first|exact zz|fail) only [go_sem, dec_t hE, load_at g0]; with_reducible rfl)))
  (refine aops_call_to (bwithin_c _ _ _) ?_)
  by_cases hL : 0 ≤ la ∧ la ≤ 1000
  rotate_left 1
  · (repeat (first | refine yw ?_ | ((first | apply yd | apply ye); simp (disch := first|exact zz|fail) only [go_sem, dec_f hL]; with_reducible rfl)))
    refine cond_t rfl ?_
    (refine yg ?_)
    exact fin_1 rfl
  have hok := mapErr_ok hz
  have h02 := hok.lo
  have h20 := hok.hi
  (repeat (first | refine yw ?_ | ((first | apply yd | apply ye); simp (disch := first|exact zz|fail) only [go_sem, dec_t hL]; with_reducible rfl)))
  refine cond_f rfl ?_
  (refine yg ?_)
  (refine aops_call_to (copyInts_c kK (by omega)) ?_)
  have kw : Ints (G ++ [.cells true 1 (K.map (.int .i64))]) K (.slice (some ⟨G.length, 0, none⟩) K.length K.length) := Ints.last K.length
  have x1 : Ext G (G ++ [AObj.cells true 1 (K.map (.int .i64))]) := (Ext.refl G).app _
  obtain ⟨w, hw⟩ : ∃ w, w = Value.slice (some ⟨G.length, 0, none⟩) K.length K.length := ⟨_, rfl⟩
  have wa : isAtom w = true := by rw [hw]; rfl
  have wc : w.cells = ⟨[w]⟩ := by rw [hw]; rfl
  rw [← hw] at kw ⊢
  generalize (G ++ [AObj.cells true 1 (K.map (.int .i64))] : AHeap) = G1 at kw x1
  have hfw : fillA [.int .i64 0, .int .i64 0, .int .i64 0, .int .i64 0, .slice none 0 0] [(4, 1, w), (2, 2, .agg ⟨[.int .i64 1, .int .i64 1]⟩)] = some (toneC (0, 0) (1, 1) w) := by
    rw [hw]; rfl
  have hst : storeR 5 (.pointer (some ⟨G1.length, 0, none⟩)) (.agg ⟨toneC (0, 0) (1, 1) w⟩) (G1 ++ [.cells true 0 [.int .i64 0, .int .i64 0, .int .i64 0, .int .i64 0, .slice none 0 0]]) = some (undef, G1 ++ [.cells true 0 (toneC (0, 0) (1, 1) w)]) := store_newN (us := toneC (0, 0) (1, 1) w) (by simp [toneC, isAtom_int, wa]) rfl rfl
  (repeat (first | refine yw ?_ | ((first | apply yd | apply ye); simp (disch := first|exact zz|fail) only [go_sem, hfw, hst, fill2i]; with_reducible rfl)))
  have c5 : (G1 ++ [AObj.cells true 0 (toneC (0, 0) (1, 1) w)])[G1.length]? = some (.cells true 0 (toneC (0, 0) (1, 1) w)) := at_new
  have x2 : Ext G1 (G1 ++ [AObj.cells true 0 (toneC (0, 0) (1, 1) w)]) := (Ext.refl G1).app _
  generalize (G1 ++ [AObj.cells true 0 (toneC (0, 0) (1, 1) w)] : AHeap) = G2 at c5 x2
  clear hst hfw
  have hlG1 := x1.len
  obtain ⟨A0, hA0⟩ : ∃ A0, l.getD 0 (0, 0) = A0 := ⟨_, rfl⟩
  obtain ⟨Z0, hZ0⟩ : ∃ Z0, l.getD (l.length - 1) (0, 0) = Z0 := ⟨_, rfl⟩
  have hfi := fun (J : AHeap) (hx : Ext G1 J) => rFirst_c (k0.ext (x1.trans hx)) (by omega)
  have hla := fun (J : AHeap) (hx : Ext G1 J) => rLast_c (k0.ext (x1.trans hx)) (by omega) (by omega)
  rw [hA0] at hfi
  rw [hZ0] at hla
  have tA := hok.time 0 (by omega)
  have tZ := hok.time (l.length - 1) (by omega)
  rw [hA0] at tA
  rw [hZ0] at tZ
  refine awp_loop_n [false, true, true, false, false, true, true, false, false, false, false, false, false, false, false, false, false, false, false, false, false, false, false, false, false, false, false, false, false, false, false, false, false, false, false, false, false, false, false, false, false, false, false, false, false, false, false, false, false, false, false, false, false, false, false, false, false, false, false, false, false, false, false, false, false, false, false, false, false, false, false, false, false, false, false, false, false, false, false, false, false, false, false, false, false, false, false, false, false, false, false, false, false, false, false, false, false, false, false, false, false, false, false, false, false, false, false, false, false, false, false, false, false, false, false, false, false, false, false, false, false, false, false, false, false, false, false, false, false, false, false, false, false, false, false, false, false, false, false, false, false, false, false, false, false, false, false, false, false, false, false, false, false, false, false, false, false, false, false, false, false, false, false, false, false, false, false, false, false, false, false, false, false, false, false, false, false, false, false, false, false, false, false, false, false, false, false, false, false, false, false, false, false, false, false, false, false, false, false, false, false, false, false, false, false, false, false, false, false, false, false, false, false, false, false, false, false, false, false, false, false, false, false, false, false, false, false, false, false, false, false, false, false, false, false, false, false, false, false, false, false, false, false, false, false, false, false, false, false, false, false, false, false, false, false, false, false, false, false, false, false, false, false, false, false, false, false, false, false, false, false, false, false, false, false, false, false, false, false, false, false, false, false, false, false, false, false, false, false, false, false, false, false, false, false, false, false, false, false, false, false, false, false] K.length (fun i e J => ∃ A D : Int × Int, e = [junk, b, .pointer (some ⟨H.length, 0, none⟩), junk, junk, .pointer (some ⟨G1.length, 0, none⟩), .int .i64 (i : Nat), junk, junk, junk, junk, junk, junk, junk, junk, junk, junk, junk, junk, junk, junk, junk, junk, junk, junk, junk, junk, junk, junk, junk, junk, junk, junk, junk, junk, junk, junk, junk, junk, junk, junk, junk, junk, junk, junk, junk, junk, junk, junk, junk, junk, junk, junk, junk, junk, junk, junk, junk, junk, junk, junk, junk, junk, junk, junk, junk, junk, junk, junk, junk, junk, junk, junk, junk, junk, junk, junk, junk, junk, junk, junk, junk, junk, junk, junk, junk, junk, junk, junk, junk, junk, junk, junk, junk, junk, junk, junk, junk, junk, junk, junk, junk, junk, junk, junk, junk, junk, junk, junk, junk, junk, junk, junk, junk, junk, junk, junk, junk, junk, junk, junk, junk, junk, junk, junk, junk, junk, junk, junk, junk, junk, junk, junk, junk, junk, junk, junk, junk, junk, junk, junk, junk, junk, junk, junk, junk, junk, junk, junk, junk, junk, junk, junk, junk, junk, junk, junk, junk, junk, junk, junk, junk, junk, junk, junk, junk, junk, junk, junk, junk, junk, junk, junk, junk, junk, junk, junk, junk, junk, junk, junk, junk, junk, junk, junk, junk, junk, junk, junk, junk, junk, junk, junk, junk, junk, junk, junk, junk, junk, junk, junk, junk, junk, junk, junk, junk, junk, junk, junk, junk, junk, junk, junk, junk, junk, junk, junk, junk, junk, junk, junk, junk, junk, junk, junk, junk, junk, junk, junk, junk, junk, junk, junk, junk, junk, junk, junk, junk, junk, junk, junk, junk, junk, junk, junk, junk, junk, junk, junk, junk, junk, junk, junk, junk, junk, junk, junk, junk, junk, junk, junk, junk, junk, junk, junk, junk, junk, junk, junk, junk, junk, junk, junk, junk, junk, junk, junk, junk, junk, junk, junk, junk, junk, junk, junk, junk, junk, junk, junk, junk, junk, junk, junk, junk, junk, junk, junk, junk, junk, junk, junk, junk, junk] ∧ Ext G1 J ∧ J[G1.length]? = some (.cells true 0 (toneC A D w)) ∧
    (∀ j, j < i → (l.getD 0 (0, 0)).1 ≤ K.getD j 0 ∧ K.getD j 0 ≤ (l.getD (l.length - 1) (0, 0)).1) ∧ (0 ≤ A.1 ∧ A.1 ≤ 2000000000000) ∧ (0 ≤ A.2 ∧ A.2 ≤ 2000000000000) ∧ (1 ≤ D.1 ∧ D.1 ≤ 4000000000000) ∧ (1 ≤ D.2 ∧ D.2 ≤ 4000000000000)) ?_ ?_
  · exact ⟨(0, 0), (1, 1), by simp [forget], x2, c5, by omega, by simp, by simp, by simp, by simp⟩
  rintro i e J hi ⟨A, D, rfl, xJ, cJ, hin, bA1, bA2, bD1, bD2⟩
  have gJ := xJ.cell (x1.cell g0)
  have kJ := k0.ext (x1.trans xJ)
  have kKJ := kK.ext (x1.trans xJ)
  (repeat (first | refine yw ?_ | ((first | apply yd | apply ye); simp (disch := first|exact zz|fail) only [go_sem, kKJ.len, kKJ.idx, kKJ.load]; with_reducible rfl)))
  refine cond_p rfl (fun hlt => ?_) (fun hge => ?_)
  rotate_left 1
  · obtain rfl : i = K.length := by omega
    have kwJ := kw.ext xJ
    (repeat (first | refine yw ?_ | ((first | apply yd | apply ye); simp (disch := first|exact zz|fail) only [go_sem, load_tone cJ]; with_reducible rfl)))
    (refine aops_call_to (rToneErr_c kwJ (by omega)) ?_)
    by_cases ht : tonesE A D K = 0
    rotate_left 1
    · (repeat (first | refine yw ?_ | ((first | apply yd | apply ye); simp (disch := first|exact zz|fail) only [go_sem, dec_t (show tonesE A D K ≠ 0 from ht)]; with_reducible rfl)))
      refine cond_t rfl ?_
      (refine yg ?_)
      exact fin_1 rfl
    have hth : toneHead A D K.length = 0 := Decidable.byContradiction fun hn => by unfold tonesE at ht; rw [if_pos hn] at ht; exact hn ht
    obtain ⟨⟨w1, w2, w3, w4⟩, -, w5⟩ := toneHead_ok hth
    (repeat (first | refine yw ?_ | ((first | apply yd | apply ye); simp (disch := first|exact zz|fail) only [go_sem, dec_f (show ¬ tonesE A D K ≠ 0 from fun h => h ht)]; with_reducible rfl)))
    refine cond_f rfl ?_
    (repeat (first | refine yw ?_ | ((first | apply yd | apply ye); simp (disch := first|exact zz|fail) only [go_sem, load_tone cJ]; with_reducible rfl)))
    refine aops_call ((marksOf_c kwJ (by omega)).mono fun v1 J2 h => ?_)
    obtain ⟨r, rfl, hr, x2⟩ := h.use
    rw [if_pos ht] at hr
    rw [ht]
    have c2 := x2.cell cJ
    have kw2 := kwJ.ext x2
    (repeat (first | refine yw ?_ | ((first | apply yd | apply ye); simp (disch := first|exact zz|fail) only [go_sem, tn0, load_tone c2]; with_reducible rfl)))
    refine aops_call ((rMarksOf_c kw2 hth).mono fun v1 J3 h => ?_)
    obtain ⟨hr2, x3⟩ := h.use
    (refine yg ?_)
    (refine aops_call_to (sameMarks_c (hr.ext x3) hr2 (by rw [tonesTo_len]; omega)) ?_)
    (repeat (first | refine yw ?_ | ((first | apply yd | apply ye); simp (disch := first|exact zz|fail) only [go_sem, decide_eq_self]; with_reducible rfl)))
    refine cond_f rfl ?_
    have x23 := x2.trans x3
    have g3 := x23.cell gJ
    have k3 := kJ.ext x23
    have kK3 := kKJ.ext x23
    have hr3 := hr.ext x3
    clear hr hr2 c2 kw2 kwJ
    obtain ⟨ra, rn, rc, er2⟩ : ∃ ra rn rc, r = .slice ra rn rc := by rcases hr3.2 with ⟨h, _⟩ | ⟨_, _, _, h, _⟩ <;> exact ⟨_, _, _, h⟩
    have hlt3 : ∀ j, j < K.length → (tonesTo A D K K.length).getD j (0, 0, 0) = toneM A D K j := fun j hj => tones_at hj
    have hln3 : ∀ J, lenR r J = some (.int .i64 (K.length : Nat), J) := fun J => by have := hr3.len (H' := J); rwa [tonesTo_len] at this
    have hmk := fun (hM) => steady_acc (L := (0, 0)) (A := A) (D := D) (K := K) hok hM
    clear hmk
    obtain ⟨M, hM⟩ : ∃ M, tonesTo A D K K.length = M := ⟨_, rfl⟩
    have hMl : M.length = K.length := by rw [← hM, tonesTo_len]
    rw [hM] at hr3 hlt3
    (refine yg ?_)
    refine awp_loop_n [false, true, true, false, false, false, false, false, false, false, true, false, true, false, false, false, false, false, false, false, false, false, false, false, false, false, false, false, false, false, false, false, false, false, false, false, false, false, false, false, false, false, false, false, false, false, false, false, false, false, false, false, false, false, false, false, false, false, false, false, false, false, false, false, false, false, false, false, false, false, false, false, false, false, false, false, false, false, false, false, false, false, false, false, false, false, false, false, false, false, false, false, false, false, false, false, false, false, false, false, false, false, false, false, false, false, false, false, false, false, false, false, false, false, false, false, false, false, false, false, false, false, false, false, false, false, false, false, false, false, false, false, false, false, false, false, false, false, false, false, false, false, false, false, false, false, false, false, false, false, false, false, false, false, false, false, false, false, false, false, false, false, false, false, false, false, false, false, false, false, false, false, false, false, false, false, false, false, false, false, false, false, false, false, false, false, false, false, false, false, false, false, false, false, false, false, false, false, false, false, false, false, false, false, false, false, false, false, false, false, false, false, false, false, false, false, false, false, false, false, false, false, false, false, false, false, false, false, false, false, false, false, false, false, false, false, false, false, false, false, false, false, false, false, false, false, false, false, false, false, false, false, false, false, false, false, false, false, false, false, false, false, false, false, false, false, false, false, false, false, false, false, false, false, false, false, false, false, false, false, false, false, false, false, false, false, false, false, false, false, false, false, false, false, false, false, false, false, false, false, false, false, false] K.length (fun i e J => e = [junk, b, .pointer (some ⟨H.length, 0, none⟩), junk, junk, junk, junk, junk, junk, junk, r, junk, .int .i64 (i : Nat), junk, junk, junk, junk, junk, junk, junk, junk, junk, junk, junk, junk, junk, junk, junk, junk, junk, junk, junk, junk, junk, junk, junk, junk, junk, junk, junk, junk, junk, junk, junk, junk, junk, junk, junk, junk, junk, junk, junk, junk, junk, junk, junk, junk, junk, junk, junk, junk, junk, junk, junk, junk, junk, junk, junk, junk, junk, junk, junk, junk, junk, junk, junk, junk, junk, junk, junk, junk, junk, junk, junk, junk, junk, junk, junk, junk, junk, junk, junk, junk, junk, junk, junk, junk, junk, junk, junk, junk, junk, junk, junk, junk, junk, junk, junk, junk, junk, junk, junk, junk, junk, junk, junk, junk, junk, junk, junk, junk, junk, junk, junk, junk, junk, junk, junk, junk, junk, junk, junk, junk, junk, junk, junk, junk, junk, junk, junk, junk, junk, junk, junk, junk, junk, junk, junk, junk, junk, junk, junk, junk, junk, junk, junk, junk, junk, junk, junk, junk, junk, junk, junk, junk, junk, junk, junk, junk, junk, junk, junk, junk, junk, junk, junk, junk, junk, junk, junk, junk, junk, junk, junk, junk, junk, junk, junk, junk, junk, junk, junk, junk, junk, junk, junk, junk, junk, junk, junk, junk, junk, junk, junk, junk, junk, junk, junk, junk, junk, junk, junk, junk, junk, junk, junk, junk, junk, junk, junk, junk, junk, junk, junk, junk, junk, junk, junk, junk, junk, junk, junk, junk, junk, junk, junk, junk, junk, junk, junk, junk, junk, junk, junk, junk, junk, junk, junk, junk, junk, junk, junk, junk, junk, junk, junk, junk, junk, junk, junk, junk, junk, junk, junk, junk, junk, junk, junk, junk, junk, junk, junk, junk, junk, junk, junk, junk, junk, junk, junk, junk, junk, junk, junk, junk, junk, junk, junk, junk, junk, junk, junk, junk, junk, junk, junk, junk, junk, junk, junk, junk, junk, junk] ∧ Ext J3 J ∧
      ∀ j, j < i → (toneM A D K j).2.1 ≤ mapTimLo l (K.getD j 0) ∧ mapTimHi l (K.getD j 0) ≤ (toneM A D K j).2.2) ?_ ?_
    · exact ⟨by simp [forget], Ext.refl _, by omega⟩
    rintro i e J4 hi ⟨rfl, x4, hmt⟩
    have g4 := x4.cell g3
    have k4 := k3.ext x4
    have kK4 := kK3.ext x4
    have hr4 := hr3.ext x4
    (repeat (first | refine yw ?_ | ((first | apply yd | apply ye); simp (disch := first|exact zz|fail) only [go_sem, hln3]; with_reducible rfl)))
    refine cond_p rfl (fun hlt => ?_) (fun hge => ?_)
    · have hi' : i < K.length := by omega
      have e1 : (i : Int) + 1 = ((i + 1 : Nat) : Int) := by omega
      obtain ⟨ip0, ip1⟩ := hin i hi'
      have hR := rTimeAt_c (n := K.getD i 0) k4 hok ip0 ip1
      have eL : timLo (pieceOf l (atPos l (K.getD i 0) 0 (l.length - 2))) (K.getD i 0) = mapTimLo l (K.getD i 0) := rfl
      have eH : timHi (pieceOf l (atPos l (K.getD i 0) 0 (l.length - 2))) (K.getD i 0) = mapTimHi l (K.getD i 0) := rfl
      rw [eL, eH] at hR
      have hstep : ∀ j, j < i + 1 → mapTimLo l (K.getD i 0) ≥ (toneM A D K i).2.1 → mapTimHi l (K.getD i 0) ≤ (toneM A D K i).2.2 → (toneM A D K j).2.1 ≤ mapTimLo l (K.getD j 0) ∧ mapTimHi l (K.getD j 0) ≤ (toneM A D K j).2.2 := fun j hj a1 a2 => by
        by_cases e : j = i
        · subst e; exact ⟨a1, a2⟩
        · exact hmt j (by omega)
      have mt := hlt3 i hi'
      obtain ⟨x, hx⟩ : ∃ x, toneM A D K i = x := ⟨_, rfl⟩
      rw [hx] at mt hstep
      generalize mapTimLo l (K.getD i 0) = tl at *
      generalize mapTimHi l (K.getD i 0) = th at *
      refine yx ?_
      (repeat (first | refine yv ?_ | (apply ye; simp (disch := first|exact zz|fail) only [go_sem, kK4.len, kK4.idx, kK4.load, n1m _ g4]; with_reducible rfl)))
      (refine adraw_call (N := []) (firstD (hR)) ?_; rw [List.append_nil])
      (repeat (first | refine yv ?_ | (apply ye; simp (disch := first|exact zz|fail) only [go_sem]; with_reducible rfl)))
      have c7 : (J4 ++ [AObj.cells true 0 [.int .i64 tl, .int .i64 th]])[J4.length]? = some (.cells true 0 [.int .i64 tl, .int .i64 th]) := at_new
      have x5 : Ext J4 (J4 ++ [AObj.cells true 0 [.int .i64 tl, .int .i64 th]]) := (Ext.refl J4).app _
      generalize (J4 ++ [AObj.cells true 0 [.int .i64 tl, .int .i64 th]] : AHeap) = J5 at c7 x5
      have hr5 := hr4.ext x5
      have hml : i < M.length := by omega
      by_cases m1 : tl < x.2.1
      · (repeat (first | refine yw ?_ | ((first | apply yd | apply ye); simp (disch := first|exact zz|fail) only [go_sem, hr5.len, hr5.idx, hr5.load, load_at c7, mt, dec_t m1]; with_reducible rfl)))
        refine cond_t rfl ?_
        (refine yg ?_)
        exact fin_1 rfl
      by_cases m2 : th > x.2.2
      · (repeat (first | refine yw ?_ | ((first | apply yd | apply ye); simp (disch := first|exact zz|fail) only [go_sem, hr5.len, hr5.idx, hr5.load, load_at c7, mt, dec_f m1, dec_t m2]; with_reducible rfl)))
        refine cond_t rfl ?_
        (refine yg ?_)
        exact fin_1 rfl
      (repeat (first | refine yw ?_ | ((first | apply yd | apply ye); simp (disch := first|exact zz|fail) only [go_sem, hr5.len, hr5.idx, hr5.load, load_at c7, mt, dec_f m1, dec_f m2]; with_reducible rfl)))
      refine cond_f rfl ?_
      (repeat (first | refine yw ?_ | ((first | apply yd | apply ye); simp (disch := first|exact zz|fail) only [go_sem, e1]; with_reducible rfl)))
      exact ⟨hi', by simp [forget], x4.trans x5, fun j hj => hstep j hj (by omega) (by omega)⟩
    obtain rfl : i = K.length := by omega
    have hall := fun (L : Int × Int) (hr : RateOk L l) => steady_acc (A := A) (D := D) hok hr fun j hj => ⟨hin j hj, hmt j hj⟩
    rw [hM] at hall
    clear hmt hin
    (refine yg ?_)
    refine awp_loop_n [false, false, true, false, false, false, false, false, false, false, true, false, false, false, true, true, true, false, false, false, false, false, false, false, false, false, false, false, false, false, false, false, false, false, false, false, false, false, false, false, false, false, false, false, false, false, false, false, false, false, false, false, false, false, false, false, false, false, false, false, false, false, false, false, false, false, false, false, false, false, false, false, false, false, false, false, false, false, false, false, false, false, false, false, false, false, false, false, false, false, false, false, false, false, false, false, false, false, false, false, false, false, false, false, false, false, false, false, false, false, false, false, false, false, false, false, false, false, false, false, false, false, false, false, false, false, false, false, false, false, false, false, false, false, false, false, false, false, false, false, false, false, false, false, false, false, false, false, false, false, false, false, false, false, false, false, false, false, false, false, false, false, false, false, false, false, false, false, false, false, false, false, false, false, false, false, false, false, false, false, false, false, false, false, false, false, false, false, false, false, false, false, false, false, false, false, false, false, false, false, false, false, false, false, false, false, false, false, false, false, false, false, false, false, false, false, false, false, false, false, false, false, false, false, false, false, false, false, false, false, false, false, false, false, false, false, false, false, false, false, false, false, false, false, false, false, false, false, false, false, false, false, false, false, false, false, false, false, false, false, false, false, false, false, false, false, false, false, false, false, false, false, false, false, false, false, false, false, false, false, false, false, false, false, false, false, false, false, false, false, false, false, false, false, false, false, false, false, false, false, false, false, false] (l.length - 1) (fun n e J => ∃ s f : Int, e = [junk, junk, .pointer (some ⟨H.length, 0, none⟩), junk, junk, junk, junk, junk, junk, junk, r, junk, junk, junk, .int .i64 s, .int .i64 f, .int .i64 (n : Nat), junk, junk, junk, junk, junk, junk, junk, junk, junk, junk, junk, junk, junk, junk, junk, junk, junk, junk, junk, junk, junk, junk, junk, junk, junk, junk, junk, junk, junk, junk, junk, junk, junk, junk, junk, junk, junk, junk, junk, junk, junk, junk, junk, junk, junk, junk, junk, junk, junk, junk, junk, junk, junk, junk, junk, junk, junk, junk, junk, junk, junk, junk, junk, junk, junk, junk, junk, junk, junk, junk, junk, junk, junk, junk, junk, junk, junk, junk, junk, junk, junk, junk, junk, junk, junk, junk, junk, junk, junk, junk, junk, junk, junk, junk, junk, junk, junk, junk, junk, junk, junk, junk, junk, junk, junk, junk, junk, junk, junk, junk, junk, junk, junk, junk, junk, junk, junk, junk, junk, junk, junk, junk, junk, junk, junk, junk, junk, junk, junk, junk, junk, junk, junk, junk, junk, junk, junk, junk, junk, junk, junk, junk, junk, junk, junk, junk, junk, junk, junk, junk, junk, junk, junk, junk, junk, junk, junk, junk, junk, junk, junk, junk, junk, junk, junk, junk, junk, junk, junk, junk, junk, junk, junk, junk, junk, junk, junk, junk, junk, junk, junk, junk, junk, junk, junk, junk, junk, junk, junk, junk, junk, junk, junk, junk, junk, junk, junk, junk, junk, junk, junk, junk, junk, junk, junk, junk, junk, junk, junk, junk, junk, junk, junk, junk, junk, junk, junk, junk, junk, junk, junk, junk, junk, junk, junk, junk, junk, junk, junk, junk, junk, junk, junk, junk, junk, junk, junk, junk, junk, junk, junk, junk, junk, junk, junk, junk, junk, junk, junk, junk, junk, junk, junk, junk, junk, junk, junk, junk, junk, junk, junk, junk, junk, junk, junk, junk, junk, junk, junk, junk, junk, junk, junk, junk, junk, junk, junk, junk, junk, junk, junk, junk, junk, junk, junk, junk] ∧ Ext J4 J ∧ RateTo s f l n ∧ (0 ≤ s ∧ s ≤ 100000) ∧ (1 ≤ f ∧ f ≤ 4000000000000)) ?_ ?_
    · exact ⟨100000, 1, by simp [forget], Ext.refl _, RateTo.zero, by omega, by omega⟩
    rintro n e J5 hn ⟨s, f, rfl, x5, hrt, bs, bf⟩
    have g5 := x5.cell g4
    have k5 := k4.ext x5
    have hr5 := hr4.ext x5
    have e1 : (n : Int) + 1 = ((n + 1 : Nat) : Int) := by omega
    (repeat (first | refine yw ?_ | ((first | apply yd | apply ye); simp (disch := first|exact zz|fail) only [go_sem, k5.len, k5.idx, k5.load, load_at g5, e1]; with_reducible rfl)))
    refine cond_p rfl (fun hlt => ?_) (fun hge => ?_)
    · have hn' : n + 1 < l.length := by omega
      have hst := hrt.step hok hn'
      have pu := hok.posUp n hn'
      have tu := hok.timeUp n hn'
      have b1 := hok.pos n (by omega)
      have b2 := hok.pos (n + 1) hn'
      have b3 := hok.time n (by omega)
      have b4 := hok.time (n + 1) hn'
      unfold dTim dPos at hst
      have ixp := k5.idx (H' := J5) (i := (n : Int)) (k := .i64) (by omega) (by omega)
      have ixq := k5.idx (H' := J5) (i := ((n + 1 : Nat) : Int)) (k := .i64) (by omega) (by omega)
      have ldp := (k5.load (Ext.refl J5) (show n < l.length by omega)).1
      have ldq := (k5.load (Ext.refl J5) hn').1
      rw [Int.toNat_natCast] at ixp ixq
      generalize l.getD n (0, 0) = p at *
      generalize l.getD (n + 1) (0, 0) = q at *
      have eq1 : (q.2 - p.2).tdiv (q.1 - p.1) = (q.2 - p.2) / (q.1 - p.1) := Int.tdiv_eq_ediv_of_nonneg (by omega)
      have bq := ediv_bound (n := q.2 - p.2) (b := q.1 - p.1) (m := 1000000000000) (by omega) ⟨by omega, by omega⟩
      have bq0 : 0 ≤ (q.2 - p.2) / (q.1 - p.1) := Int.ediv_nonneg (by omega) (by omega)
      have bc := ediv_bound (n := -(q.2 - p.2)) (b := q.1 - p.1) (m := 1000000000000) (by omega) ⟨by omega, by omega⟩
      refine yx ?_
      (repeat (first | refine yv ?_ | (apply ye; simp (disch := first|exact zz|fail) only [go_sem, load_at g5, ixp, ixq, ldp, ldq, e1]; with_reducible rfl)))
      (simp only [List.length_append, List.length_cons, List.length_nil, Nat.zero_add, Nat.add_assoc, Nat.reduceAdd])
      obtain ⟨J6, hJ6⟩ : ∃ J6, J6 = J5 ++ [AObj.cells true 0 [.int .i64 p.1, .int .i64 p.2]] ++ [AObj.cells true 0 [.int .i64 q.1, .int .i64 q.2]] := ⟨_, rfl⟩
      have c17 : J6[J5.length]? = some (.cells true 0 [.int .i64 p.1, .int .i64 p.2]) := by rw [hJ6]; simp
      have c18 : J6[J5.length + 1]? = some (.cells true 0 [.int .i64 q.1, .int .i64 q.2]) := by rw [hJ6]; simp
      have x6 : Ext J5 J6 := by rw [hJ6]; exact ((Ext.refl J5).app _).app _
      try simp only [List.append_assoc] at hJ6
      try simp only [List.append_assoc]
      rw [← hJ6]
      clear hJ6
      (repeat (first | refine yw ?_ | ((first | apply yd | apply ye); simp (disch := first|exact zz|fail) only [go_sem, load_at c17, load_at c18, a_quo (show q.1 - p.1 ≠ 0 by omega), eq1]; with_reducible rfl)))
      (refine aops_call_to (bceilL_c (q.2 - p.2) (q.1 - p.1) ⟨by omega, by omega⟩ ⟨by omega, by omega⟩) ?_)
      (repeat (first | refine yw ?_ | ((first | apply yd | apply ye); simp (disch := first|exact zz|fail) only [go_sem, e1]; with_reducible rfl)))
      exact ⟨by omega, _, _, by simp [forget], x5.trans x6, hst, by omega, by omega⟩
    have hro := hrt.ok (show l.length ≤ n + 1 by omega)
    subst er2
    have hfe : ∀ (a b : Int) (u : Option Addr) (n m : Nat), fillA [.int .i64 0, .int .i64 0, .slice none 0 0] [(0, 2, .agg ⟨[.int .i64 a, .int .i64 b]⟩), (2, 1, .slice u n m)] = some [.int .i64 a, .int .i64 b, .slice u n m] := fun _ _ _ _ _ => rfl
    have hst19 : storeR 3 (.pointer (some ⟨J5.length, 0, none⟩)) (.agg ⟨[.int .i64 s, .int .i64 f, .slice ra rn rc]⟩) (J5 ++ [.cells true 0 [.int .i64 0, .int .i64 0, .slice none 0 0]]) = some (undef, J5 ++ [.cells true 0 (evC (s, f) (.slice ra rn rc))]) := store_newN (us := evC (s, f) (.slice ra rn rc)) rfl rfl rfl
    have c19 : (J5 ++ [AObj.cells true 0 (evC (s, f) (.slice ra rn rc))])[J5.length]? = some (.cells true 0 (evC (s, f) (.slice ra rn rc))) := at_new
    have x6 : Ext J5 (J5 ++ [AObj.cells true 0 (evC (s, f) (.slice ra rn rc))]) := (Ext.refl J5).app _
    (repeat (first | refine yw ?_ | ((first | apply yd | apply ye); simp (disch := first|exact zz|fail) only [go_sem, fill2i, hfe, hst19]; with_reducible rfl)))
    clear hst19 hfe
    generalize (J5 ++ [AObj.cells true 0 (evC (s, f) (.slice ra rn rc))] : AHeap) = J6 at c19 x6
    have g6 := x6.cell g5
    have k6 := k5.ext x6
    have hr6 := hr5.ext x6
    (repeat (first | refine yw ?_ | ((first | apply yd | apply ye); simp (disch := first|exact zz|fail) only [go_sem, load_ev c19]; with_reducible rfl)))
    (refine aops_call_to (rEvErr_c hr6 (by omega)) ?_)
    by_cases hz2 : evErrL (s, f) M = 0
    rotate_left 1
    · (repeat (first | refine yw ?_ | ((first | apply yd | apply ye); simp (disch := first|exact zz|fail) only [go_sem, dec_t (show evErrL (s, f) M ≠ 0 from hz2)]; with_reducible rfl)))
      refine cond_t rfl ?_
      (refine yg ?_)
      exact fin_1 rfl
    have hacc := hall (s, f) hro
    have hcalm : clashL (s, f) M = none := by rw [← hM] at hacc hz2 ⊢; exact steady_calm hok (evErr_ok hz2) hacc
    (repeat (first | refine yw ?_ | ((first | apply yd | apply ye); simp (disch := first|exact zz|fail) only [go_sem, dec_f (show ¬ evErrL (s, f) M ≠ 0 from fun h => h hz2)]; with_reducible rfl)))
    refine cond_f rfl ?_
    (repeat (first | refine yw ?_ | ((first | apply yd | apply ye); simp (disch := first|exact zz|fail) only [go_sem, load_ev c19]; with_reducible rfl)))
    refine adraw_call (copyEv_c hr6 (by omega)) ?_
    have hC : Tris (J6 ++ [.cells true 3 (flat3 M)]) M (.slice (some ⟨J6.length, 0, none⟩) M.length M.length) := Tris.last M.length
    have x7 : Ext J6 (J6 ++ [AObj.cells true 3 (flat3 M)]) := (Ext.refl J6).app _
    obtain ⟨J7, hJ7⟩ : ∃ J7, J6 ++ [AObj.cells true 3 (flat3 M)] = J7 := ⟨_, rfl⟩
    rw [hJ7] at hC x7 ⊢
    clear hJ7
    (repeat (first | refine yw ?_ | ((first | apply yd | apply ye); simp (disch := first|exact zz|fail) only [go_sem, n1m _ (x7.cell g6)]; with_reducible rfl)))
    refine adraw_call (copyMap_c (k6.ext x7) (by omega)) ?_
    have hD : Pairs (J7 ++ [.cells true 2 (flatP l)]) l (.slice (some ⟨J7.length, 0, none⟩) l.length l.length) := Pairs.last l.length
    have x8 : Ext J7 (J7 ++ [AObj.cells true 2 (flatP l)]) := (Ext.refl J7).app _
    obtain ⟨J8, hJ8⟩ : ∃ J8, J7 ++ [AObj.cells true 2 (flatP l)] = J8 := ⟨_, rfl⟩
    rw [hJ8] at hD x8 ⊢
    clear hJ8
    (refine yg ?_)
    (refine adraw_call (N := []) (firstD (accepts_c (hC.ext x8) (by omega) hD (by omega))) ?_; rw [List.append_nil])
    have ev : accL (s, f) M l = (0, 0) := by
      unfold accL accE
      rw [hz2, hz, if_neg (by decide), hacc]
    rw [ev]
    have x78 := x7.trans x8
    have hr8 := hr6.ext x78
    (repeat (first | refine yw ?_ | ((first | apply yd | apply ye); simp (disch := first|exact zz|fail) only [go_sem, load_ev (x78.cell c19)]; with_reducible rfl)))
    (refine aops_call_to (copyEv_c hr8 (by omega)) ?_)
    have hC : Tris (J8 ++ [.cells true 3 (flat3 M)]) M (.slice (some ⟨J8.length, 0, none⟩) M.length M.length) := Tris.last M.length
    (refine yg ?_)
    generalize (J8 ++ [AObj.cells true 3 (flat3 M)] : AHeap) = J9 at hC
    (refine aops_call_to (clashOf_c hC (by omega)) ?_)
    have ez : clashOfL (s, f) M = ((0, 0), 12) := by unfold clashOfL; rw [if_neg (fun h => h hz2), hcalm]
    rw [ez]
    (repeat (first | refine yw ?_ | ((first | apply yd | apply ye); simp (disch := first|exact zz|fail) only [go_sem, store_newF, decide_eq_self]; with_reducible rfl)))
    exact fin_1 rfl
  have hi' : i < K.length := by omega
  have e1 : (i : Int) + 1 = ((i + 1 : Nat) : Int) := by omega
  iterate 5 refine yv ?_
  refine awp_midX [false, true, true, false, false, true, true, false, false, false, false, false, false, false, false, false, false, false, false, false, false, false, false, false, false, false, false, false, false, false, false, false, false, false, false, false, false, false, false, false, false, false, false, false, false, false, false, false, false, false, false, false, false, false, false, false, false, false, false, false, false, false, false, false, false, false, false, false, false, false, false, false, false, false, false, false, false, false, false, false, false, false, false, false, false, false, false, false, false, false, false, false, false, false, false, false, false, false, false, false, false, false, false, false, false, false, false, false, false, false, false, false, false, false, false, false, false, false, false, false, false, false, false, false, false, false, false, false, false, false, false, false, false, false, false, false, false, false, false, false, false, false, false, false, false, false, false, false, false, false, false, false, false, false, false, false, false, false, false, false, false, false, false, false, false, false, false, false, false, false, false, false, false, false, false, false, false, false, false, false, false, false, false, false, false, false, false, false, false, false, false, false, false, false, false, false, false, false, false, false, false, false, false, false, false, false, false, false, false, false, false, false, false, false, false, false, false, false, false, false, false, false, false, false, false, false, false, false, false, false, false, false, false, false, false, false, false, false, false, false, false, false, false, false, false, false, false, false, false, false, false, false, false, false, false, false, false, false, false, false, false, false, false, false, false, false, false, false, false, false, false, false, false, false, false, false, false, false, false, false, false, false, false, false, false, false, false, false, false, false, false, false, false, false, false, false, false, false, false, false, false, false, false] (fun e J2 => J2 = J ∧ e = [junk, b, .pointer (some ⟨H.length, 0, none⟩), junk, junk, .pointer (some ⟨G1.length, 0, none⟩), .int .i64 (i : Nat), junk, junk, junk, junk, junk, junk, junk, junk, junk, junk, junk, junk, junk, junk, junk, junk, junk, junk, junk, junk, junk, junk, junk, junk, junk, junk, junk, junk, junk, junk, junk, junk, junk, junk, junk, junk, junk, junk, junk, junk, junk, junk, junk, junk, junk, junk, junk, junk, junk, junk, junk, junk, junk, junk, junk, junk, junk, junk, junk, junk, junk, junk, junk, junk, junk, junk, junk, junk, junk, junk, junk, junk, junk, junk, junk, junk, junk, junk, junk, junk, junk, junk, junk, junk, junk, junk, junk, junk, junk, junk, junk, junk, junk, junk, junk, junk, junk, junk, junk, junk, junk, junk, junk, junk, junk, junk, junk, junk, junk, junk, junk, junk, junk, junk, junk, junk, junk, junk, junk, junk, junk, junk, junk, junk, junk, junk, junk, junk, junk, junk, junk, junk, junk, junk, junk, junk, junk, junk, junk, junk, junk, junk, junk, junk, junk, junk, junk, junk, junk, junk, junk, junk, junk, junk, junk, junk, junk, junk, junk, junk, junk, junk, junk, junk, junk, junk, junk, junk, junk, junk, junk, junk, junk, junk, junk, junk, junk, junk, junk, junk, junk, junk, junk, junk, junk, junk, junk, junk, junk, junk, junk, junk, junk, junk, junk, junk, junk, junk, junk, junk, junk, junk, junk, junk, junk, junk, junk, junk, junk, junk, junk, junk, junk, junk, junk, junk, junk, junk, junk, junk, junk, junk, junk, junk, junk, junk, junk, junk, junk, junk, junk, junk, junk, junk, junk, junk, junk, junk, junk, junk, junk, junk, junk, junk, junk, junk, junk, junk, junk, junk, junk, junk, junk, junk, junk, junk, junk, junk, junk, junk, junk, junk, junk, junk, junk, junk, junk, junk, junk, junk, junk, junk, junk, junk, junk, junk, junk, junk, junk, junk, junk, junk, junk, junk, junk, junk, junk, junk, junk, junk, junk, junk, junk, junk, junk, junk] ∧ A0.1 ≤ K.getD i 0 ∧ K.getD i 0 ≤ Z0.1) ?_ ?_
  · (repeat (first | refine yw ?_ | ((first | apply yd | apply ye); simp (disch := first|exact zz|fail) only [go_sem, kKJ.len, kKJ.idx, kKJ.load, n1m _ gJ]; with_reducible rfl)))
    (refine adraw_call (N := []) (firstD (hfi J xJ)) ?_; rw [List.append_nil])
    (repeat (first | refine yw ?_ | ((first | apply yd | apply ye); simp (disch := first|exact zz|fail) only [go_sem, n1m _ gJ]; with_reducible rfl)))
    (refine adraw_call (N := []) (firstD (hla J xJ)) ?_; rw [List.append_nil])
    (refine yg ?_)
    (refine adraw_call (N := []) (firstD (bwithin_c _ _ _)) ?_; rw [List.append_nil])
    by_cases hr : A0.1 ≤ K.getD i 0 ∧ K.getD i 0 ≤ Z0.1
    rotate_left 1
    · (repeat (first | refine yw ?_ | ((first | apply yd | apply ye); simp (disch := first|exact zz|fail) only [go_sem, dec_f hr]; with_reducible rfl)))
      refine cond_t rfl ?_
      (refine yg ?_)
      refine .inr ⟨by simp, ?_⟩
      (refine yg ?_)
      exact fin_1 rfl
    by_cases h0 : (i : Int) > 0
    · have ix2 := kKJ.idx (H' := J) (i := (i : Int) - 1) (k := .i64) (by omega) (by omega)
      by_cases hle : K.getD i 0 ≤ K.getD ((i : Int) - 1).toNat 0
      · (repeat (first | refine yw ?_ | ((first | apply yd | apply ye); simp (disch := first|exact zz|fail) only [go_sem, kKJ.len, kKJ.idx, kKJ.load, dec_t hr, dec_t h0, dec_t hle]; with_reducible rfl)))
        refine cond_t rfl ?_
        (refine yg ?_)
        refine .inr ⟨by simp, ?_⟩
        (refine yg ?_)
        exact fin_1 rfl
      · (repeat (first | refine yw ?_ | ((first | apply yd | apply ye); simp (disch := first|exact zz|fail) only [go_sem, kKJ.len, kKJ.idx, kKJ.load, dec_t hr, dec_t h0, dec_f hle]; with_reducible rfl)))
        refine cond_f rfl ?_
        (refine yg ?_)
        exact .inl ⟨rfl, rfl, by simp [forget], hr⟩
    · (repeat (first | refine yw ?_ | ((first | apply yd | apply ye); simp (disch := first|exact zz|fail) only [go_sem, kKJ.len, kKJ.idx, kKJ.load, dec_t hr, dec_f h0]; with_reducible rfl)))
      refine cond_f rfl ?_
      (refine yg ?_)
      exact .inl ⟨rfl, rfl, by simp [forget], hr⟩
  rintro e J2 ⟨rfl, rfl, hr⟩
  have ip : (l.getD 0 (0, 0)).1 ≤ K.getD i 0 ∧ K.getD i 0 ≤ (l.getD (l.length - 1) (0, 0)).1 := by rw [hA0, hZ0]; exact hr
  have hT := timeAt_in hok ip.1 ip.2
  have hin2 : ∀ j, j < i + 1 → (l.getD 0 (0, 0)).1 ≤ K.getD j 0 ∧ K.getD j 0 ≤ (l.getD (l.length - 1) (0, 0)).1 := fun j hj => by
    by_cases e : j = i
    · subst e; exact ip
    · exact hin j (by omega)
  obtain ⟨⟨q1, q2, q3, q4⟩, -, -⟩ := map_back hok ip.1 ip.2
  rw [hA0] at q1
  rw [hZ0] at q4
  refine yx ?_
  (repeat (first | refine yv ?_ | (apply ye; simp (disch := first|exact zz|fail) only [go_sem, n1m _ gJ]; with_reducible rfl)))
  refine adraw_call (copyMap_c kJ (by omega)) ?_
  have hC : Pairs (J2 ++ [.cells true 2 (flatP l)]) l (.slice (some ⟨J2.length, 0, none⟩) l.length l.length) := Pairs.last l.length
  have x3 : Ext J2 (J2 ++ [AObj.cells true 2 (flatP l)]) := (Ext.refl J2).app _
  obtain ⟨J3, hJ3⟩ : ∃ J3, J2 ++ [AObj.cells true 2 (flatP l)] = J3 := ⟨_, rfl⟩
  rw [hJ3] at hC x3 ⊢
  clear hJ3
  have kK3 := kKJ.ext x3
  (repeat (first | refine yv ?_ | (apply ye; simp (disch := first|exact zz|fail) only [go_sem, kK3.len, kK3.idx, kK3.load]; with_reducible rfl)))
  (refine adraw_call (N := []) (firstD (sTimeAtF_c hC (by omega))) ?_; rw [List.append_nil])
  rw [hT]
  have hR := fun (J : AHeap) (w : Value) (hw : Pairs J l w) => rTimeAt_c hw hok ip.1 ip.2
  have eL : timLo (pieceOf l (atPos l (K.getD i 0) 0 (l.length - 2))) (K.getD i 0) = mapTimLo l (K.getD i 0) := rfl
  have eH : timHi (pieceOf l (atPos l (K.getD i 0) 0 (l.length - 2))) (K.getD i 0) = mapTimHi l (K.getD i 0) := rfl
  simp only [eL, eH] at hR
  generalize mapTimLo l (K.getD i 0) = tl at *
  generalize mapTimHi l (K.getD i 0) = th at *
  (repeat (first | refine yv ?_ | (apply ye; simp (disch := first|exact zz|fail) only [go_sem]; with_reducible rfl)))
  have c7 : (J3 ++ [AObj.cells true 0 [.int .i64 tl, .int .i64 th]])[J3.length]? = some (.cells true 0 [.int .i64 tl, .int .i64 th]) := at_new
  have x4 : Ext J3 (J3 ++ [AObj.cells true 0 [.int .i64 tl, .int .i64 th]]) := (Ext.refl J3).app _
  generalize (J3 ++ [AObj.cells true 0 [.int .i64 tl, .int .i64 th]] : AHeap) = J4 at c7 x4
  have x24 := x3.trans x4
  have x14 := xJ.trans x24
  have g4 := x24.cell gJ
  have k4 := kJ.ext x24
  have kK4 := kKJ.ext x24
  have c4 := x24.cell cJ
  have ne7 : J3.length ≠ G1.length := by have := (List.getElem?_eq_some_iff.1 cJ).1; have := x3.len; omega
  (repeat (first | refine yw ?_ | ((first | apply yd | apply ye); simp (disch := first|exact zz|fail) only [go_sem, kK4.len, kK4.idx, kK4.load, tn0, n2_at c7, n1m _ g4]; with_reducible rfl)))
  (refine adraw_call (N := []) (firstD (hR _ _ k4)) ?_; rw [List.append_nil])
  (repeat (first | refine yw ?_ | ((first | apply yd | apply ye); simp (disch := first|exact zz|fail) only [go_sem, eq_pair, decide_eq_self]; with_reducible rfl)))
  refine cond_f rfl ?_
  by_cases i0 : (i : Int) = 0
  · (repeat (first | refine yw ?_ | ((first | apply yd | apply ye); simp (disch := first|exact zz|fail) only [go_sem, dec_t i0]; with_reducible rfl)))
    refine cond_t rfl ?_
    (repeat (first | refine yw ?_ | ((first | apply yd | apply ye); simp (disch := first|exact zz|fail) only [go_sem, load_at c7, load_at g4, fill2i, store_tA c4]; with_reducible rfl)))
    (repeat (first | refine yw ?_ | ((first | apply yd | apply ye); simp (disch := first|exact zz|fail) only [go_sem, e1]; with_reducible rfl)))
    refine ⟨hi', _, D, by simp [forget], x14.set (Nat.le_refl _) _, get_set_self c4, hin2, ?_, ?_, bD1, bD2⟩ <;> (dsimp only; omega)
  (repeat (first | refine yw ?_ | ((first | apply yd | apply ye); simp (disch := first|exact zz|fail) only [go_sem, dec_f i0]; with_reducible rfl)))
  refine cond_f rfl ?_
  obtain ⟨f, hf⟩ : ∃ f, (tl - A.1) / (i : Int) = f := ⟨_, rfl⟩
  obtain ⟨g, hg⟩ : ∃ g, -(-(th - A.2) / (i : Int)) = g := ⟨_, rfl⟩
  have bf := ediv_bound (n := tl - A.1) (b := (i : Int)) (m := 3000000000000) (by omega) ⟨by omega, by omega⟩
  have bg := ediv_bound (n := -(th - A.2)) (b := (i : Int)) (m := 3000000000000) (by omega) ⟨by omega, by omega⟩
  rw [hf] at bf
  refine yx ?_
  (repeat (first | refine yv ?_ | (apply ye; simp (disch := first|exact zz|fail) only [go_sem, load_at c7, load_at c4, toneC]; with_reducible rfl)))
  (refine adraw_call (N := []) (firstD (bfloorL_c (tl - A.1) (i : Int) ⟨by omega, by omega⟩ ⟨by omega, by omega⟩)) ?_; rw [List.append_nil])
  rw [hf]
  (repeat (first | refine yv ?_ | (apply ye; simp (disch := first|exact zz|fail) only [go_sem, load_at c7, load_at c4, toneC]; with_reducible rfl)))
  (refine adraw_call (N := []) (firstD (bceilL_c (th - A.2) (i : Int) ⟨by omega, by omega⟩ ⟨by omega, by omega⟩)) ?_; rw [List.append_nil])
  rw [hg]
  have bg : -3000000000000 ≤ g ∧ g ≤ 3000000000000 := by omega
  (repeat (first | refine yv ?_ | (apply ye; simp (disch := first|exact zz|fail) only [go_sem, fill2i]; with_reducible rfl)))
  have c9 : (J4 ++ [AObj.cells true 0 [.int .i64 f, .int .i64 g]])[J4.length]? = some (.cells true 0 [.int .i64 f, .int .i64 g]) := at_new
  have x5 : Ext J4 (J4 ++ [AObj.cells true 0 [.int .i64 f, .int .i64 g]]) := (Ext.refl J4).app _
  generalize (J4 ++ [AObj.cells true 0 [.int .i64 f, .int .i64 g]] : AHeap) = J5 at c9 x5
  have c45 := x5.cell c4
  have x15 := x14.trans x5
  have ne9 : G1.length ≠ J4.length := by have := (List.getElem?_eq_some_iff.1 c4).1; omega
  (refine yg ?_)
  refine awp_mid [false, true, true, false, false, true, true, false, false, true, false, false, false, false, false, false, false, false, false, false, false, false, false, false, false, false, false, false, false, false, false, false, false, false, false, false, false, false, false, false, false, false, false, false, false, false, false, false, false, false, false, false, false, false, false, false, false, false, false, false, false, false, false, false, false, false, false, false, false, false, false, false, false, false, false, false, false, false, false, false, false, false, false, false, false, false, false, false, false, false, false, false, false, false, false, false, false, false, false, false, false, false, false, false, false, false, false, false, false, false, false, false, false, false, false, false, false, false, false, false, false, false, false, false, false, false, false, false, false, false, false, false, false, false, false, false, false, false, false, false, false, false, false, false, false, false, false, false, false, false, false, false, false, false, false, false, false, false, false, false, false, false, false, false, false, false, false, false, false, false, false, false, false, false, false, false, false, false, false, false, false, false, false, false, false, false, false, false, false, false, false, false, false, false, false, false, false, false, false, false, false, false, false, false, false, false, false, false, false, false, false, false, false, false, false, false, false, false, false, false, false, false, false, false, false, false, false, false, false, false, false, false, false, false, false, false, false, false, false, false, false, false, false, false, false, false, false, false, false, false, false, false, false, false, false, false, false, false, false, false, false, false, false, false, false, false, false, false, false, false, false, false, false, false, false, false, false, false, false, false, false, false, false, false, false, false, false, false, false, false, false, false, false, false, false, false, false, false, false, false, false, false, false] (fun e J6 => ∃ D' : Int × Int, e = [junk, b, .pointer (some ⟨H.length, 0, none⟩), junk, junk, .pointer (some ⟨G1.length, 0, none⟩), .int .i64 (i : Nat), junk, junk, .pointer (some ⟨J4.length, 0, none⟩), junk, junk, junk, junk, junk, junk, junk, junk, junk, junk, junk, junk, junk, junk, junk, junk, junk, junk, junk, junk, junk, junk, junk, junk, junk, junk, junk, junk, junk, junk, junk, junk, junk, junk, junk, junk, junk, junk, junk, junk, junk, junk, junk, junk, junk, junk, junk, junk, junk, junk, junk, junk, junk, junk, junk, junk, junk, junk, junk, junk, junk, junk, junk, junk, junk, junk, junk, junk, junk, junk, junk, junk, junk, junk, junk, junk, junk, junk, junk, junk, junk, junk, junk, junk, junk, junk, junk, junk, junk, junk, junk, junk, junk, junk, junk, junk, junk, junk, junk, junk, junk, junk, junk, junk, junk, junk, junk, junk, junk, junk, junk, junk, junk, junk, junk, junk, junk, junk, junk, junk, junk, junk, junk, junk, junk, junk, junk, junk, junk, junk, junk, junk, junk, junk, junk, junk, junk, junk, junk, junk, junk, junk, junk, junk, junk, junk, junk, junk, junk, junk, junk, junk, junk, junk, junk, junk, junk, junk, junk, junk, junk, junk, junk, junk, junk, junk, junk, junk, junk, junk, junk, junk, junk, junk, junk, junk, junk, junk, junk, junk, junk, junk, junk, junk, junk, junk, junk, junk, junk, junk, junk, junk, junk, junk, junk, junk, junk, junk, junk, junk, junk, junk, junk, junk, junk, junk, junk, junk, junk, junk, junk, junk, junk, junk, junk, junk, junk, junk, junk, junk, junk, junk, junk, junk, junk, junk, junk, junk, junk, junk, junk, junk, junk, junk, junk, junk, junk, junk, junk, junk, junk, junk, junk, junk, junk, junk, junk, junk, junk, junk, junk, junk, junk, junk, junk, junk, junk, junk, junk, junk, junk, junk, junk, junk, junk, junk, junk, junk, junk, junk, junk, junk, junk, junk, junk, junk, junk, junk, junk, junk, junk, junk, junk, junk, junk, junk, junk, junk, junk, junk, junk, junk, junk] ∧ Ext G1 J6 ∧
    J6[G1.length]? = some (.cells true 0 (toneC A D' w)) ∧ J6[J4.length]? = some (.cells true 0 [.int .i64 f, .int .i64 g]) ∧ (-4000000000000 ≤ D'.1 ∧ D'.1 ≤ 4000000000000) ∧ (-4000000000000 ≤ D'.2 ∧ D'.2 ≤ 4000000000000)) ?_ ?_
  · refine cond_p (p := (i : Int) = 1) rfl (fun i1 => ?_) (fun i1 => ?_)
    · (repeat (first | refine yw ?_ | ((first | apply yd | apply ye); simp (disch := first|exact zz|fail) only [go_sem, n2_at c9, store_tD c45]; with_reducible rfl)))
      exact ⟨rfl, (f, g), by simp [forget], x15.set (Nat.le_refl _) _, get_set_self c45, by rw [List.getElem?_set_ne ne9]; exact c9, by dsimp only; omega, by dsimp only; omega⟩
    · (refine yg ?_)
      exact ⟨rfl, D, by simp [forget], x15, c45, c9, by omega, by omega⟩
  rintro e J6 ⟨D', rfl, x6, c6, d9, bD3, bD4⟩
  (repeat (first | refine yw ?_ | ((first | apply yd | apply ye); simp (disch := first|exact zz|fail) only [go_sem, load_at c6, load_at d9, toneC, most_max4, fill2i, store_tD c6]; with_reducible rfl)))
  (repeat (first | refine yw ?_ | ((first | apply yd | apply ye); simp (disch := first|exact zz|fail) only [go_sem, e1]; with_reducible rfl)))
  refine ⟨hi', A, (max 1 (min D'.1 f), max (max (max 1 D'.2) g) f), by simp [forget], x6.set (Nat.le_refl _) _, get_set_self c6, hin2, bA1, bA2, ?_, ?_⟩ <;> (dsimp only; omega)
end Go.Lq

namespace Go.Lq
open Go Go.ChangeShapes Go.WideShapes Go.ChangeAt Go.RowKit
open Go.Proofs

set_option maxRecDepth 100000 in
theorem lifted16 (os : Os) (started : os.Started) (X : Type) (enc : TypeId × Value → X) :
    ReturnsInHanded {} Try.checked os 16 .any (Yteimgikhanhgiaa.Rows.speedSteadySpec.pre6 enc Try.prog Try.f16 [] false) (Yteimgikhanhgiaa.Rows.speedSteadySpec.post enc Try.prog Try.f16 false true false false) := by
  refine returnsInHanded_of_plain_shaped (C := Try.checked) own_knob started (by kernel_rfl) Try.func16
    (ChangeSpec.witness6 (enc := enc) (C := Try.checked) false ⟨#[], #[.agg #[.slice none 0 0, .int .i64 0, .int .i64 0], .slice none 0 0], []⟩ 12 (by kernel_rfl) (by kernel_rfl) (by kernel_rfl) (by kernel_rfl)) ?_
  intro W base args ds gs before hsh hval hW
  have hWw := hW
  obtain ⟨p, q, hA, _⟩ := hW
  refine (calls_of_law (d := 20) (of_shaped hsh) globs glob_at hA (fun j t v h1 h2 => hval j t v (by simpa using h1) (by simpa using h2)) (by kernel_rfl) fun H avs hx h => ?_).mono fun e W' ⟨he, hB⟩ => ?_
  · exact law16 (by rw [show Try.f16.params = #[106, 59] from Try.params16] at h; exact h)
  · subst he
    exact ⟨_, rfl, law_post (bt := 4) laid_out rfl Try.underlying4 (by kernel_rfl) (by kernel_rfl) hWw (fun ds hd => by
      rw [show Try.f16.params = #[106, 59] from Try.params16] at hd
      match ds, hd with
      | [a, b], _ => rfl) hB⟩
theorem unf16 : Try.prog.unfollowed 16 = true := by kernel_rfl
theorem rec16 : Try.prog.recurses 16 = true := by kernel_rfl
theorem named16 : Try.prog.varsNamed 16 = Yteimgikhanhgiaa.Rows.speedSteadyRow.named := by kernel_rfl
theorem facts16 : joinedFacts Try.prog 16 Try.f16 Yteimgikhanhgiaa.Rows.speedSteadySpec Yteimgikhanhgiaa.Rows.speedSteadyRow = true := by
  unfold joinedFacts
  rw [may_enter, stops_heard, maps_rowed, laid_out, lifts_final, make_is, unf16, rec16, named16]
  kernel_rfl
theorem holds16 : Yteimgikhanhgiaa.Rows.SpeedSteadySaid :=
  OpenClaim.holds_of_wide 16 Try.f16 rfl rfl rfl rfl rfl rfl rfl ⟨rfl, rfl, rfl, rfl, rfl⟩ rfl rfl rfl rfl rfl (by kernel_rfl) Try.func16 facts16
    (of_decide_eq_true (by kernel_rfl)) (by unfold Func.isWrapper; first | (rw [if_pos (by decide +kernel)]; kernel_rfl) | (rw [if_neg (by decide +kernel)]; exact ⟨rfl, rfl⟩))
    (fun os started H enc _ => lifted16 os started H enc)
end Go.Lq
namespace Go.Proofs.Yteimgikhanhgiaa
open Go Go.Lq
theorem speedSteady_proved : Rows.SpeedSteadySaid := holds16
end Go.Proofs.Yteimgikhanhgiaa
