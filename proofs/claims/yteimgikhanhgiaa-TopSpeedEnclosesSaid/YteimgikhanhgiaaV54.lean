/- TopSpeedEncloses is proved: for every input that can be read the law returns true, and each argument reads afterwards as it read before; nothing is asked of package variables. -/
import Derived.Test.YteimgikhanhgiaaV53
set_option linter.unusedSimpArgs false
set_option linter.unnecessarySimpa false
set_option linter.unusedVariables false
set_option linter.unusedSectionVars false
set_option maxRecDepth 100000
namespace Go.Lq

def hearM (l : List (Int × Int)) (er la : Int) (K : List Int) (j : Nat) : Mark := (K.getD j 0, max 0 (mapTimLo l (K.getD j 0) - er), min 1000000000000 (mapTimHi l (K.getD j 0) + la))
def hearTo (l : List (Int × Int)) (er la : Int) (K : List Int) (n : Nat) : List Mark := (List.range n).map (hearM l er la K)
theorem hearTo_succ {l : List (Int × Int)} {er la : Int} {K : List Int} {n : Nat} : hearTo l er la K (n + 1) = hearTo l er la K n ++ [hearM l er la K n] := by simp [hearTo, List.range_succ]
theorem hearTo_len {l : List (Int × Int)} {er la : Int} {K : List Int} {n : Nat} : (hearTo l er la K n).length = n := by simp [hearTo]
theorem hear_at {l : List (Int × Int)} {er la : Int} {K : List Int} {n j : Nat} (h : j < n) : (hearTo l er la K n).getD j (0, 0, 0) = hearM l er la K j := by
  unfold hearTo
  rw [List.getD_eq_getElem?_getD, List.getElem?_map, List.getElem?_range h]; rfl
structure Meets (M : List Mark) (l : List (Int × Int)) : Prop where
  ok : MapOk l
  in_ : ∀ j, j < M.length → (l.getD 0 (0, 0)).1 ≤ mP M j ∧ mP M j ≤ (l.getD (l.length - 1) (0, 0)).1
  lo : ∀ j, j < M.length → (M.getD j (0, 0, 0)).2.1 ≤ mapTimLo l (mP M j)
  hi : ∀ j, j < M.length → mapTimHi l (mP M j) ≤ (M.getD j (0, 0, 0)).2.2
theorem hear_meets {l : List (Int × Int)} {er la : Int} {K : List Int} (hm : MapOk l) (he : 0 ≤ er ∧ er ≤ 5) (hl : 0 ≤ la ∧ la ≤ 5) (hin : ∀ j, j < K.length → (l.getD 0 (0, 0)).1 ≤ K.getD j 0 ∧ K.getD j 0 ≤ (l.getD (l.length - 1) (0, 0)).1) :
    Meets (hearTo l er la K K.length) l ∧ ∀ j, j < K.length → ((hearTo l er la K K.length).getD j (0, 0, 0)).2.2 - ((hearTo l er la K K.length).getD j (0, 0, 0)).2.1 < 40 := by
  have tb : ∀ j, j < K.length → (0 ≤ mapTimLo l (K.getD j 0)) ∧ (mapTimLo l (K.getD j 0) ≤ mapTimHi l (K.getD j 0) ∧ mapTimHi l (K.getD j 0) ≤ mapTimLo l (K.getD j 0) + 1) ∧ mapTimHi l (K.getD j 0) ≤ 1000000000000 := fun j hj => by
    obtain ⟨h1, h2⟩ := hin j hj
    obtain ⟨⟨b1, b2, b3, b4⟩, -, -⟩ := map_back hm h1 h2
    have hlo := hm.lo
    have t0 := hm.time 0 (by omega)
    have t1 := hm.time (l.length - 1) (by omega)
    omega
  refine ⟨⟨hm, fun j hj => ?_, fun j hj => ?_, fun j hj => ?_⟩, fun j hj => ?_⟩ <;> try rw [hearTo_len] at hj
  · have e : mP (hearTo l er la K K.length) j = K.getD j 0 := by unfold mP; rw [hear_at hj]; rfl
    rw [e]; exact hin j hj
  · have e : mP (hearTo l er la K K.length) j = K.getD j 0 := by unfold mP; rw [hear_at hj]; rfl
    rw [e, hear_at hj]
    have := tb j hj
    show max 0 (mapTimLo l (K.getD j 0) - er) ≤ _
    omega
  · have e : mP (hearTo l er la K K.length) j = K.getD j 0 := by unfold mP; rw [hear_at hj]; rfl
    rw [e, hear_at hj]
    have := tb j hj
    show _ ≤ min 1000000000000 (mapTimHi l (K.getD j 0) + la)
    omega
  · rw [hear_at hj]
    have := tb j hj
    show min 1000000000000 (mapTimHi l (K.getD j 0) + la) - max 0 (mapTimLo l (K.getD j 0) - er) < 40
    omega
section
variable {L : Int × Int} {M : List Mark} {l : List (Int × Int)}
theorem Meets.both (h : Meets M l) {j : Nat} (hj : j < M.length) : atLeast (pieceP l (mP M j)) (mP M j) (M.getD j (0, 0, 0)).2.1 ∧ atMost (pieceP l (mP M j)) (mP M j) (M.getD j (0, 0, 0)).2.2 := by
  have hlo := h.ok.lo
  obtain ⟨b1, _⟩ := atPos_in (l := l) (t := mP M j) (k := l.length - 2) (i := 0) (by omega) (h.in_ j hj).1
  have hp : (pieceP l (mP M j)).1.1 < (pieceP l (mP M j)).2.1 := (h.ok.piece b1).pos
  rw [least_lo hp, most_hi hp]
  exact ⟨h.lo j hj, h.hi j hj⟩
theorem Meets.acc (h : Meets M l) (hr : RateOk L l) : accGo L M l = (0, 0) := accGo_zero hr fun j hj => ⟨h.in_ j hj, meets_iff.2 (h.both hj)⟩
theorem mP_lt (he : EvOk L M) {i k : Nat} (hi : i < M.length) (hk : k < M.length) (h : mP M i < mP M k) : i < k := by
  refine Decidable.byContradiction fun hn => ?_
  by_cases e : i = k
  · subst e; omega
  · have := he.lt (show k < i by omega) hi
    dsimp only [mP] at h
    omega
theorem mP_one (he : EvOk L M) {i k : Nat} (hi : i < M.length) (hk : k < M.length) (h : mP M i = mP M k) : i = k := by
  refine Decidable.byContradiction fun hn => ?_
  by_cases e : i < k
  · have := he.lt e hk; dsimp only [mP] at h; omega
  · have := he.lt (show k < i by omega) hi; dsimp only [mP] at h; omega
theorem true_chain (hM : Meets M l) (hr : RateOk L l) (he : EvOk L M) {i0 i1 : Nat} (hnode : ∀ i, i0 ≤ i → i ≤ i1 → ∃ k, k < M.length ∧ mP M k = (l.getD i (0, 0)).1) (hi1 : i1 < l.length) (hend : (l.getD i1 (0, 0)).1 = mP M (M.length - 1)) :
    ∀ d i k, i + d = i1 → i0 ≤ i → k < M.length → mP M k = (l.getD i (0, 0)).1 → Chain L M k (l.getD i (0, 0)).2 (d + 1) := by
  have hin : ∀ i k, i ≤ i1 → k < M.length → mP M k = (l.getD i (0, 0)).1 → inR M k (l.getD i (0, 0)).2 := fun i k h1 h2 e => by
    obtain ⟨⟨n1, n2⟩, -⟩ := map_node hM.ok (i := i) (by omega)
    have a := hM.lo k h2
    have b := hM.hi k h2
    rw [e, n1] at a
    rw [e, n2] at b
    exact ⟨a, b⟩
  intro d
  induction d with
  | zero =>
    intro i k h1 h2 h3 h4
    obtain rfl : i = i1 := by omega
    have : k = M.length - 1 := mP_one he h3 (by omega) (by rw [h4, hend])
    exact Chain.last (by omega) (hin i k (Nat.le_refl _) h3 h4)
  | succ d ih =>
    intro i k h1 h2 h3 h4
    obtain ⟨k', h5, h6⟩ := hnode (i + 1) (by omega) (by omega)
    have hup := hM.ok.posUp i (by omega)
    have hkk : k < k' := mP_lt he h3 h5 (by rw [h4, h6]; exact hup)
    have ep : pieceK M k k' (l.getD i (0, 0)).2 (l.getD (i + 1) (0, 0)).2 = pieceOf l i := by
      show ((mP M k, (l.getD i (0, 0)).2), (mP M k', (l.getD (i + 1) (0, 0)).2)) = (l.getD i (0, 0), l.getD (i + 1) (0, 0))
      rw [h4, h6]
    refine Chain.step (hin i k (by omega) h3 h4) hkk ⟨?_, fun j a b => ?_⟩ (ih (i + 1) k' (by omega) (by omega) h5 h6)
    · rw [ep]; exact decide_eq_true (hr i (by omega))
    · rw [ep]
      have hj : j < M.length := by omega
      have p1 := he.lt a hj
      have p2 := he.lt b h5
      have hb := hM.both hj
      obtain ⟨q1, q2⟩ := least_any hM.ok (n := mP M j) (c := (M.getD j (0, 0, 0)).2.1) (j := i) (by omega) (by dsimp only [mP] at *; omega) (by dsimp only [mP] at *; omega)
      obtain ⟨r1, r2⟩ := least_any hM.ok (n := mP M j) (c := (M.getD j (0, 0, 0)).2.2) (j := i) (by omega) (by dsimp only [mP] at *; omega) (by dsimp only [mP] at *; omega)
      exact meets_iff.2 ⟨q1.1 hb.1, r2.1 hb.2⟩
def cntTo (l : List (Int × Int)) (a b : Int) : Nat → Nat
  | 0 => 0
  | n + 1 => if a ≤ (l.getD n (0, 0)).1 ∧ (l.getD n (0, 0)).1 ≤ b then cntTo l a b n + 1 else cntTo l a b n
theorem cntTo_succ {a b : Int} {n : Nat} : cntTo l a b (n + 1) = if a ≤ (l.getD n (0, 0)).1 ∧ (l.getD n (0, 0)).1 ≤ b then cntTo l a b n + 1 else cntTo l a b n := rfl
theorem cnt_le {a b : Int} : ∀ {n : Nat}, cntTo l a b n ≤ n
  | 0 => Nat.le_refl _
  | n + 1 => by
    have := cnt_le (a := a) (b := b) (n := n)
    rw [cntTo_succ]; split <;> omega
theorem cnt_ge {a b : Int} {i0 i1 : Nat} (h : ∀ i, i0 ≤ i → i ≤ i1 → a ≤ (l.getD i (0, 0)).1 ∧ (l.getD i (0, 0)).1 ≤ b) : ∀ {n : Nat}, min n (i1 + 1) - i0 ≤ cntTo l a b n
  | 0 => by omega
  | n + 1 => by
    have ih := cnt_ge h (n := n)
    rw [cntTo_succ]
    by_cases hn : i0 ≤ n ∧ n ≤ i1
    · rw [if_pos (h n hn.1 hn.2)]; omega
    · split <;> omega
theorem few_true (hM : Meets M l) (hr : RateOk L l) (he : EvOk L M) (h2 : 2 ≤ M.length) {i0 i1 : Nat} (hi0 : i0 < l.length) (hi1 : i1 < l.length) (e0 : (l.getD i0 (0, 0)).1 = mP M 0) (e1 : (l.getD i1 (0, 0)).1 = mP M (M.length - 1))
    (hall : ∀ i, i < l.length → mP M 0 ≤ (l.getD i (0, 0)).1 → (l.getD i (0, 0)).1 ≤ mP M (M.length - 1) → ∃ k, k < M.length ∧ mP M k = (l.getD i (0, 0)).1) {m : Nat} (hmin : ∀ s n, Chain L M 0 s n → m ≤ n) :
    m ≤ cntTo l (mP M 0) (mP M (M.length - 1)) l.length := by
  have hlt := he.lt (show 0 < M.length - 1 by omega) (by omega)
  have h01 : i0 < i1 := by
    refine Decidable.byContradiction fun hn => ?_
    have := hM.ok.posLe (show i1 ≤ i0 by omega) hi0
    dsimp only [mP] at e0 e1
    omega
  have hbt : ∀ i, i0 ≤ i → i ≤ i1 → mP M 0 ≤ (l.getD i (0, 0)).1 ∧ (l.getD i (0, 0)).1 ≤ mP M (M.length - 1) := fun i a b => by
    have p := hM.ok.posLe a (by omega)
    have q := hM.ok.posLe b hi1
    rw [e0] at p
    rw [e1] at q
    exact ⟨p, q⟩
  have hc := true_chain hM hr he (i0 := i0) (i1 := i1) (fun i a b => hall i (by omega) (hbt i a b).1 (hbt i a b).2) hi1 e1 (i1 - i0) i0 0 (by omega) (Nat.le_refl _) (by omega) e0.symm
  have := hmin _ _ hc
  have := cnt_ge hbt (n := l.length)
  omega
end
end Go.Lq

namespace Go.Lq
open Go
open Go.Proofs

set_option maxRecDepth 100000 in
theorem repHearing {H : AHeap} {v : Value} (h : RepA Try.prog H 58 v) : ∃ (s : Value) (L : Int × Int) (a b : Int) (l : List (Int × Int)), v = .agg ⟨[s, .int .i64 L.1, .int .i64 L.2, .int .i64 a, .int .i64 b]⟩ ∧ Pairs H l s ∧ l.length ≤ maxLen := by
  obtain ⟨acs, rfl, hr⟩ := h.struct Try.underlying58
  obtain ⟨hl, hf⟩ := hr.struct_inv Try.underlying58
  rw [show Try.prog.cellsOf 58 = 5 by kernel_rfl] at hl
  match acs, hl with
  | [s, x, y, b, c], _ =>
    have h0 : Rep Try.prog H 42 (([s, x, y, b, c].drop 0).take (Try.prog.cellsOf 42)) := hf 0 _ rfl
    have h3 : Rep Try.prog H 23 (([s, x, y, b, c].drop 1).take (Try.prog.cellsOf 23)) := hf 1 _ rfl
    have h1 : Rep Try.prog H 3 (([s, x, y, b, c].drop 3).take (Try.prog.cellsOf 3)) := hf 2 _ rfl
    have h2 : Rep Try.prog H 3 (([s, x, y, b, c].drop 4).take (Try.prog.cellsOf 3)) := hf 3 _ rfl
    rw [cells3] at h1 h2
    rw [cellsRange] at h3
    rw [show Try.prog.cellsOf 42 = 1 by kernel_rfl] at h0
    obtain ⟨n1, e1, _⟩ := h1.int_inv Try.underlying3
    obtain ⟨n2, e2, _⟩ := h2.int_inv Try.underlying3
    obtain ⟨p, q, e3⟩ := repRange h3
    have e1' : [b] = [.int .i64 n1] := e1
    have e2' : [c] = [.int .i64 n2] := e2
    have e3' : [x, y] = [.int .i64 p, .int .i64 q] := e3
    cases e1'; cases e2'; cases e3'
    obtain ⟨l, h6, h7⟩ := repMap (s := s) h0
    exact ⟨s, (p, q), n1, n2, l, rfl, h6, h7⟩
theorem hasNode_c {H : AHeap} {l : List (Int × Int)} {u : Value} {q : Int} (hl : Pairs H l u) (hb : l.length ≤ 1000000) : ACall Go.Proofs.Try.prog 46 [.agg ⟨[u]⟩, .int .i64 q] H fun w H' => w = .bool (decide (∃ i, i < l.length ∧ (l.getD i (0, 0)).1 = q)) ∧ H' = H := by
  refine ACall.drop (.bool _) ?_
  (refine a46 ?_; simp only [n46, List.replicate, yq, yr, yt, yu]; first | refine q1 ?_ | refine q2 ?_ | refine q6 ?_ | refine q7 ?_ | refine qh rfl ?_ | skip)
  have g0 : (H ++ [AObj.cells true 0 [u]])[H.length]? = some (.cells true 0 [u]) := at_new
  have xG : Ext H (H ++ [AObj.cells true 0 [u]]) := (Ext.refl H).app _
  (repeat (first | refine yv ?_ | (apply yd; simp (disch := first|exact zz|fail) only [go_sem, hl.box1]; with_reducible rfl)))
  generalize (H ++ [AObj.cells true 0 [u]] : AHeap) = G at g0 xG
  have k0 := hl.ext xG
  (refine yg ?_)
  refine awp_loop_n [false, true, true, false, false, true, false, false, false, false, false, false, false, false, false, false, false, false, false, false, false] l.length (fun i e J => J = G ∧ e = [junk, .int .i64 q, .pointer (some ⟨H.length, 0, none⟩), junk, junk, .int .i64 (i : Nat), junk, junk, junk, junk, junk, junk, junk, junk, junk, junk, junk, junk, junk, junk, junk] ∧ ∀ j, j < i → (l.getD j (0, 0)).1 ≠ q) ?_ ?_
  · exact ⟨rfl, by simp [forget], by omega⟩
  rintro i e J hi ⟨rfl, rfl, hb⟩
  (repeat (first | refine yw ?_ | ((first | apply yd | apply ye); simp (disch := first|exact zz|fail) only [go_sem, k0.len, k0.idx, k0.load, load_at g0]; with_reducible rfl)))
  refine cond_p rfl (fun hlt => ?_) (fun hge => ?_)
  rotate_left 1
  · have hn : ¬ ∃ i, i < l.length ∧ (l.getD i (0, 0)).1 = q := fun ⟨j, h1, h2⟩ => hb j (by omega) h2
    rw [dec_f hn]
    (refine yg ?_)
    exact fin_1 ⟨rfl, xG⟩
  have hi' : i < l.length := by omega
  have e1 : (i : Int) + 1 = ((i + 1 : Nat) : Int) := by omega
  by_cases e : (l.getD i (0, 0)).1 = q
  · rw [dec_t (show ∃ i, i < l.length ∧ (l.getD i (0, 0)).1 = q from ⟨i, hi', e⟩)]
    (repeat (first | refine yw ?_ | ((first | apply yd | apply ye); simp (disch := first|exact zz|fail) only [go_sem, k0.len, k0.idx, k0.load, load_at g0, dec_t e]; with_reducible rfl)))
    refine cond_t rfl ?_
    (refine yg ?_)
    exact fin_1 ⟨rfl, xG⟩
  · (repeat (first | refine yw ?_ | ((first | apply yd | apply ye); simp (disch := first|exact zz|fail) only [go_sem, k0.len, k0.idx, k0.load, load_at g0, dec_f e]; with_reducible rfl)))
    refine cond_f rfl ?_
    (repeat (first | refine yw ?_ | ((first | apply yd | apply ye); simp (disch := first|exact zz|fail) only [go_sem, e1]; with_reducible rfl)))
    refine ⟨hi', rfl, by simp [forget], fun j hj => ?_⟩
    by_cases hji : j = i
    · subst hji; exact e
    · exact hb j (by omega)
theorem un0 : decide ((0 : Int) ≠ 0) = false := by decide
theorem un12 : decide ((12 : Int) ≠ 12) = false := by decide
set_option maxRecDepth 100000 in
set_option maxHeartbeats 16000000 in
theorem law5 {H : AHeap} {avs : List Value} (h : RepAll Try.prog H [58, 59, 3] avs) : ACall Try.prog 5 avs H fun v _ => v = .bool true := by
  obtain ⟨a, b, c, rfl, h1, h2, h3⟩ := h.three
  obtain ⟨u, L, er, la, l, rfl, hm, hmm⟩ := repHearing h1
  obtain ⟨K, hK, hKm, -⟩ := h2.ints Try.underlying59 Try.underlying3 cells3
  obtain ⟨at0, rfl, -⟩ := h3.int Try.underlying3
  (refine a5 ?_; simp only [n5, List.replicate, yq, yr, yt, yu]; first | refine Go.Lq.q1 ?_ | refine Go.Lq.q2 ?_ | refine Go.Lq.q6 ?_ | refine Go.Lq.q7 ?_ | refine Go.Lq.qh rfl ?_ | skip)
  obtain ⟨C, hC⟩ : ∃ C, C = [u, Value.int .i64 L.1, .int .i64 L.2, .int .i64 er, .int .i64 la] := ⟨_, rfl⟩
  have hbx : boxR (.agg ⟨[u, .int .i64 L.1, .int .i64 L.2, .int .i64 er, .int .i64 la]⟩) H = some (.pointer (some ⟨H.length, 0, none⟩), H ++ [.cells true 0 C]) := by rw [hC]; exact box_agg (by simp [hm.atom, isAtom_int])
  have g0 : (H ++ [AObj.cells true 0 C])[H.length]? = some (.cells true 0 C) := at_new
  have xG : Ext H (H ++ [AObj.cells true 0 C]) := (Ext.refl H).app _
  (repeat (first | refine yv ?_ | (apply yd; simp (disch := first|exact zz|fail) only [go_sem, hbx]; with_reducible rfl)))
  clear hbx
  generalize (H ++ [AObj.cells true 0 C] : AHeap) = G at g0 xG
  have k0 := hm.ext xG
  have kK := hK.ext xG
  have n1m : ∀ J : AHeap, J[H.length]? = some (.cells true 0 C) → loadNR 1 (.pointer (some ⟨H.length, 0, none⟩)) J = some (.agg ⟨[u]⟩, J) := fun J hJ => by subst hC; exact loadN_at hJ (by simp)
  have n2m : ∀ J : AHeap, J[H.length]? = some (.cells true 0 C) → loadNR 2 (.pointer (some ⟨H.length, 1, none⟩)) J = some (.agg ⟨[.int .i64 L.1, .int .i64 L.2]⟩, J) := fun J hJ => by subst hC; exact loadN_at hJ (by simp)
  have l3 : ∀ J : AHeap, J[H.length]? = some (.cells true 0 C) → loadR (.pointer (some ⟨H.length, 3, none⟩)) J = some (.int .i64 er, J) := fun J hJ => by subst hC; rw [load_at hJ]; rfl
  have l4 : ∀ J : AHeap, J[H.length]? = some (.cells true 0 C) → loadR (.pointer (some ⟨H.length, 4, none⟩)) J = some (.int .i64 la, J) := fun J hJ => by subst hC; rw [load_at hJ]; rfl
  have lu : ∀ J : AHeap, J[H.length]? = some (.cells true 0 C) → loadR (.pointer (some ⟨H.length, 0, none⟩)) J = some (u, J) := fun J hJ => by subst hC; rw [load_at hJ]; rfl
  clear hC
  (refine yg ?_)
  (refine aops_call_to (sawake_c) ?_)
  (refine yg ?_)
  refine cond_f rfl ?_
  (repeat (first | refine yw ?_ | ((first | apply yd | apply ye); simp (disch := first|exact zz|fail) only [go_sem, n1m _ g0]; with_reducible rfl)))
  (refine aops_call_to (few_c k0) ?_)
  by_cases hf : l.length ≤ 22
  rotate_left 1
  · (repeat (first | refine yw ?_ | ((first | apply yd | apply ye); simp (disch := first|exact zz|fail) only [go_sem, dec_f hf]; with_reducible rfl)))
    refine cond_t rfl ?_
    (refine yg ?_)
    exact fin_1 rfl
  (repeat (first | refine yw ?_ | ((first | apply yd | apply ye); simp (disch := first|exact zz|fail) only [go_sem, dec_t hf, n1m _ g0]; with_reducible rfl)))
  (refine aops_call_to (rMapErr_c k0 (by omega)) ?_)
  by_cases hz : mapErrL l = 0
  rotate_left 1
  · (repeat (first | refine yw ?_ | ((first | apply yd | apply ye); simp (disch := first|exact zz|fail) only [go_sem, dec_t (show mapErrL l ≠ 0 from hz)]; with_reducible rfl)))
    refine cond_t rfl ?_
    (refine yg ?_)
    exact fin_1 rfl
  by_cases hK0 : (K.length : Int) < 2
  · (repeat (first | refine yw ?_ | ((first | apply yd | apply ye); simp (disch := first|exact zz|fail) only [go_sem, kK.len, kK.idx, kK.load, dec_f (show ¬ mapErrL l ≠ 0 from fun h => h hz), dec_t hK0]; with_reducible rfl)))
    refine cond_t rfl ?_
    (refine yg ?_)
    exact fin_1 rfl
  by_cases hK1 : (K.length : Int) > 6
  · (repeat (first | refine yw ?_ | ((first | apply yd | apply ye); simp (disch := first|exact zz|fail) only [go_sem, kK.len, kK.idx, kK.load, dec_f (show ¬ mapErrL l ≠ 0 from fun h => h hz), dec_f hK0, dec_t hK1]; with_reducible rfl)))
    refine cond_t rfl ?_
    (refine yg ?_)
    exact fin_1 rfl
  (repeat (first | refine yw ?_ | ((first | apply yd | apply ye); simp (disch := first|exact zz|fail) only [go_sem, kK.len, kK.idx, kK.load, dec_f (show ¬ mapErrL l ≠ 0 from fun h => h hz), dec_f hK0, dec_f hK1, l3 _ g0]; with_reducible rfl)))
  (refine aops_call_to (bwithin_c _ _ _) ?_)
  by_cases hE : 0 ≤ er ∧ er ≤ 5
  rotate_left 1
  · (repeat (first | refine yw ?_ | ((first | apply yd | apply ye); simp (disch := first|exact zz|fail) only [go_sem, dec_f hE]; with_reducible rfl)))
    refine cond_t rfl ?_
    (refine yg ?_)
    exact fin_1 rfl
  (repeat (first | refine yw ?_ | ((first | apply yd | apply ye); simp (disch := first|exact zz|fail) only [go_sem, dec_t hE, l4 _ g0]; with_reducible rfl)))
  (refine aops_call_to (bwithin_c _ _ _) ?_)
  by_cases hL : 0 ≤ la ∧ la ≤ 5
  rotate_left 1
  · (repeat (first | refine yw ?_ | ((first | apply yd | apply ye); simp (disch := first|exact zz|fail) only [go_sem, dec_f hL]; with_reducible rfl)))
    refine cond_t rfl ?_
    (refine yg ?_)
    exact fin_1 rfl
  have hok := mapErr_ok hz
  have h02 := hok.lo
  have h20 := hok.hi
  (repeat (first | refine yw ?_ | ((first | apply yd | apply ye); simp (disch := first|exact zz|fail) only [go_sem, dec_t hL]; with_reducible rfl)))
  refine cond_f rfl ?_
  have hfe : fillA [.int .i64 0, .int .i64 0, .slice none 0 0] [(0, 2, .agg ⟨[.int .i64 L.1, .int .i64 L.2]⟩)] = some (evC L (.slice none 0 0)) := rfl
  have hst : storeR 3 (.pointer (some ⟨G.length, 0, none⟩)) (.agg ⟨evC L (.slice none 0 0)⟩) (G ++ [.cells true 0 [.int .i64 0, .int .i64 0, .slice none 0 0]]) = some (undef, G ++ [.cells true 0 (evC L (.slice none 0 0))]) := store_newN (us := evC L (.slice none 0 0)) rfl rfl rfl
  have c7 : (G ++ [AObj.cells true 0 (evC L (.slice none 0 0))])[G.length]? = some (.cells true 0 (evC L (.slice none 0 0))) := at_new
  obtain ⟨B, hB⟩ : ∃ B, B = G ++ [AObj.cells true 0 (evC L (.slice none 0 0))] := ⟨_, rfl⟩
  have xB : Ext G B := ⟨_, hB⟩
  have lB : B.length = G.length + 1 := by rw [hB]; simp
  rw [← hB] at hst c7
  (repeat (first | refine yw ?_ | ((first | apply yd | apply ye); simp (disch := first|exact zz|fail) only [go_sem, n2m _ g0, hfe, hst]; with_reducible rfl)))
  clear hst hfe hB
  obtain ⟨A0, hA0⟩ : ∃ A0, l.getD 0 (0, 0) = A0 := ⟨_, rfl⟩
  obtain ⟨Z0, hZ0⟩ : ∃ Z0, l.getD (l.length - 1) (0, 0) = Z0 := ⟨_, rfl⟩
  have hfi := fun (J : AHeap) (hx : Ext G J) => rFirst_c (k0.ext hx) (by omega)
  have hla := fun (J : AHeap) (hx : Ext G J) => rLast_c (k0.ext hx) (by omega) (by omega)
  rw [hA0] at hfi
  rw [hZ0] at hla
  have tA := hok.time 0 (by omega)
  have tZ := hok.time (l.length - 1) (by omega)
  rw [hA0] at tA
  rw [hZ0] at tZ
  have hg := (List.getElem?_eq_some_iff.1 g0).1
  refine awp_loop_n [false, true, true, true, false, false, false, true, true, false, false, false, false, false, false, false, false, false, false, false, false, false, false, false, false, false, false, false, false, false, false, false, false, false, false, false, false, false, false, false, false, false, false, false, false, false, false, false, false, false, false, false, false, false, false, false, false, false, false, false, false, false, false, false, false, false, false, false, false, false, false, false, false, false, false, false, false, false, false, false, false, false, false, false, false, false, false, false, false, false, false, false, false, false, false, false, false, false, false, false, false, false, false, false, false, false, false, false, false, false, false, false, false, false, false, false, false, false, false, false, false, false, false, false, false, false, false, false, false, false, false, false, false, false, false, false, false, false, false, false, false, false, false, false, false, false, false, false, false, false, false, false, false, false, false, false, false, false, false, false, false, false, false, false, false, false, false, false, false, false, false, false, false, false, false, false, false, false, false, false, false, false, false, false, false, false, false, false, false, false, false, false, false, false, false, false, false, false, false, false, false, false, false, false, false, false, false, false, false, false, false, false, false, false, false, false, false, false, false, false, false, false, false, false, false, false, false, false, false, false, false, false, false, false, false, false, false, false, false, false, false, false, false, false, false, false, false, false, false, false, false, false, false, false, false, false, false, false, false, false, false, false, false, false, false, false, false, false, false, false, false, false, false, false, false, false, false, false, false, false, false, false, false, false, false, false, false, false, false, false, false, false, false, false, false, false, false, false, false, false, false, false, false, false, false, false, false, false, false, false, false, false, false, false, false, false, false, false, false, false, false, false, false, false, false, false, false, false, false, false, false, false, false, false, false, false, false, false, false, false, false, false, false, false, false, false, false, false, false, false, false, false, false, false, false, false] K.length (fun i e J => ∃ sv, e = [junk, b, .int .i64 at0, .pointer (some ⟨H.length, 0, none⟩), junk, junk, junk, .pointer (some ⟨G.length, 0, none⟩), .int .i64 (i : Nat), junk, junk, junk, junk, junk, junk, junk, junk, junk, junk, junk, junk, junk, junk, junk, junk, junk, junk, junk, junk, junk, junk, junk, junk, junk, junk, junk, junk, junk, junk, junk, junk, junk, junk, junk, junk, junk, junk, junk, junk, junk, junk, junk, junk, junk, junk, junk, junk, junk, junk, junk, junk, junk, junk, junk, junk, junk, junk, junk, junk, junk, junk, junk, junk, junk, junk, junk, junk, junk, junk, junk, junk, junk, junk, junk, junk, junk, junk, junk, junk, junk, junk, junk, junk, junk, junk, junk, junk, junk, junk, junk, junk, junk, junk, junk, junk, junk, junk, junk, junk, junk, junk, junk, junk, junk, junk, junk, junk, junk, junk, junk, junk, junk, junk, junk, junk, junk, junk, junk, junk, junk, junk, junk, junk, junk, junk, junk, junk, junk, junk, junk, junk, junk, junk, junk, junk, junk, junk, junk, junk, junk, junk, junk, junk, junk, junk, junk, junk, junk, junk, junk, junk, junk, junk, junk, junk, junk, junk, junk, junk, junk, junk, junk, junk, junk, junk, junk, junk, junk, junk, junk, junk, junk, junk, junk, junk, junk, junk, junk, junk, junk, junk, junk, junk, junk, junk, junk, junk, junk, junk, junk, junk, junk, junk, junk, junk, junk, junk, junk, junk, junk, junk, junk, junk, junk, junk, junk, junk, junk, junk, junk, junk, junk, junk, junk, junk, junk, junk, junk, junk, junk, junk, junk, junk, junk, junk, junk, junk, junk, junk, junk, junk, junk, junk, junk, junk, junk, junk, junk, junk, junk, junk, junk, junk, junk, junk, junk, junk, junk, junk, junk, junk, junk, junk, junk, junk, junk, junk, junk, junk, junk, junk, junk, junk, junk, junk, junk, junk, junk, junk, junk, junk, junk, junk, junk, junk, junk, junk, junk, junk, junk, junk, junk, junk, junk, junk, junk, junk, junk, junk, junk, junk, junk, junk, junk, junk, junk, junk, junk, junk, junk, junk, junk, junk, junk, junk, junk, junk, junk, junk, junk, junk, junk, junk, junk, junk, junk, junk, junk, junk, junk, junk, junk, junk, junk, junk, junk, junk, junk, junk, junk, junk, junk, junk, junk, junk, junk, junk, junk, junk, junk, junk, junk, junk, junk, junk, junk] ∧ Ext G J ∧ J[G.length]? = some (.cells true 0 (evC L sv)) ∧ OwnT B J (hearTo l er la K i) sv ∧
    (∀ j, j < i → (l.getD 0 (0, 0)).1 ≤ K.getD j 0 ∧ K.getD j 0 ≤ (l.getD (l.length - 1) (0, 0)).1)) ?_ ?_
  · exact ⟨_, by simp [forget], xB, c7, OwnT.nil _ _, by omega⟩
  rintro i e J hi ⟨sv, rfl, xJ, cJ, hown, hin⟩
  have gJ := xJ.cell g0
  have kJ := k0.ext xJ
  have kKJ := kK.ext xJ
  have hsv : isAtom sv = true := hown.tris.atom
  (repeat (first | refine yw ?_ | ((first | apply yd | apply ye); simp (disch := first|exact zz|fail) only [go_sem, kKJ.len, kKJ.idx, kKJ.load]; with_reducible rfl)))
  refine cond_p rfl (fun hlt => ?_) (fun hge => ?_)
  · have hi' : i < K.length := by omega
    have e1 : (i : Int) + 1 = ((i + 1 : Nat) : Int) := by omega
    (repeat (first | refine yw ?_ | ((first | apply yd | apply ye); simp (disch := first|exact zz|fail) only [go_sem, kKJ.len, kKJ.idx, kKJ.load, n1m _ gJ]; with_reducible rfl)))
    (refine adraw_call (N := []) (firstD (hfi J xJ)) ?_; rw [List.append_nil])
    (repeat (first | refine yw ?_ | ((first | apply yd | apply ye); simp (disch := first|exact zz|fail) only [go_sem, n1m _ gJ]; with_reducible rfl)))
    (refine adraw_call (N := []) (firstD (hla J xJ)) ?_; rw [List.append_nil])
    (refine yg ?_)
    (refine adraw_call (N := []) (firstD (bwithin_c _ _ _)) ?_; rw [List.append_nil])
    by_cases hr : A0.1 ≤ K.getD i 0 ∧ K.getD i 0 ≤ Z0.1
    rotate_left 1
    · (repeat (first | refine yw ?_ | ((first | apply yd | apply ye); simp (disch := first|exact zz|fail) only [go_sem, dec_f hr]; with_reducible rfl)))
      refine cond_t rfl ?_
      (refine yg ?_)
      exact fin_1 rfl
    (repeat (first | refine yw ?_ | ((first | apply yd | apply ye); simp (disch := first|exact zz|fail) only [go_sem, dec_t hr]; with_reducible rfl)))
    refine cond_f rfl ?_
    have ip : (l.getD 0 (0, 0)).1 ≤ K.getD i 0 ∧ K.getD i 0 ≤ (l.getD (l.length - 1) (0, 0)).1 := by rw [hA0, hZ0]; exact hr
    have hT := timeAt_in hok ip.1 ip.2
    have hin2 : ∀ j, j < i + 1 → (l.getD 0 (0, 0)).1 ≤ K.getD j 0 ∧ K.getD j 0 ≤ (l.getD (l.length - 1) (0, 0)).1 := fun j hj => by
      by_cases e : j = i
      · subst e; exact ip
      · exact hin j (by omega)
    obtain ⟨⟨q1, q2, q3, q4⟩, -, -⟩ := map_back hok ip.1 ip.2
    rw [hA0] at q1
    rw [hZ0] at q4
    refine yx ?_
    (repeat (first | refine yv ?_ | (apply ye; simp (disch := first|exact zz|fail) only [go_sem, n1m _ gJ]; with_reducible rfl)))
    refine adraw_call (copyMap_c kJ (by omega)) ?_
    have hC : Pairs (J ++ [.cells true 2 (flatP l)]) l (.slice (some ⟨J.length, 0, none⟩) l.length l.length) := Pairs.last l.length
    have x3 : Ext J (J ++ [AObj.cells true 2 (flatP l)]) := (Ext.refl J).app _
    have ho3 := hown.app [.cells true 2 (flatP l)]
    obtain ⟨J3, hJ3⟩ : ∃ J3, J ++ [AObj.cells true 2 (flatP l)] = J3 := ⟨_, rfl⟩
    rw [hJ3] at hC x3 ho3 ⊢
    clear hJ3
    have kK3 := kKJ.ext x3
    (repeat (first | refine yv ?_ | (apply ye; simp (disch := first|exact zz|fail) only [go_sem, kK3.len, kK3.idx, kK3.load]; with_reducible rfl)))
    (refine adraw_call (N := []) (firstD (sTimeAtF_c hC (by omega))) ?_; rw [List.append_nil])
    rw [hT]
    have hR := fun (J : AHeap) (w : Value) (hw : Pairs J l w) => rTimeAt_c hw hok ip.1 ip.2
    have eL : timLo (pieceOf l (atPos l (K.getD i 0) 0 (l.length - 2))) (K.getD i 0) = mapTimLo l (K.getD i 0) := rfl
    have eH : timHi (pieceOf l (atPos l (K.getD i 0) 0 (l.length - 2))) (K.getD i 0) = mapTimHi l (K.getD i 0) := rfl
    simp only [eL, eH] at hR
    have ex : hearM l er la K i = (K.getD i 0, max 0 (mapTimLo l (K.getD i 0) - er), min 1000000000000 (mapTimHi l (K.getD i 0) + la)) := rfl
    generalize mapTimLo l (K.getD i 0) = tl at *
    generalize mapTimHi l (K.getD i 0) = th at *
    (repeat (first | refine yv ?_ | (apply ye; simp (disch := first|exact zz|fail) only [go_sem]; with_reducible rfl)))
    have c9 : (J3 ++ [AObj.cells true 0 [.int .i64 tl, .int .i64 th]])[J3.length]? = some (.cells true 0 [.int .i64 tl, .int .i64 th]) := at_new
    have x4 : Ext J3 (J3 ++ [AObj.cells true 0 [.int .i64 tl, .int .i64 th]]) := (Ext.refl J3).app _
    have ho4 := ho3.app [.cells true 0 [.int .i64 tl, .int .i64 th]]
    generalize (J3 ++ [AObj.cells true 0 [.int .i64 tl, .int .i64 th]] : AHeap) = J4 at c9 x4 ho4
    have x24 := x3.trans x4
    have x14 := xJ.trans x24
    have g4 := x24.cell gJ
    have k4 := kJ.ext x24
    have kK4 := kKJ.ext x24
    have c4 := x24.cell cJ
    (repeat (first | refine yw ?_ | ((first | apply yd | apply ye); simp (disch := first|exact zz|fail) only [go_sem, kK4.len, kK4.idx, kK4.load, un0, n2_at c9, n1m _ g4]; with_reducible rfl)))
    (refine adraw_call (N := []) (firstD (hR _ _ k4)) ?_; rw [List.append_nil])
    (repeat (first | refine yw ?_ | ((first | apply yd | apply ye); simp (disch := first|exact zz|fail) only [go_sem, eq_pair, decide_eq_self]; with_reducible rfl)))
    refine cond_f rfl ?_
    have hfm : ∀ a b c : Int, fillA [.int .i64 0, .int .i64 0, .int .i64 0] [(0, 1, .int .i64 a), (1, 2, .agg ⟨[.int .i64 b, .int .i64 c]⟩)] = some [.int .i64 a, .int .i64 b, .int .i64 c] := fun _ _ _ => rfl
    have hf3 : ∀ a b c : Int, fillA [.int .i64 0, .int .i64 0, .int .i64 0] [(0, 3, .agg ⟨[.int .i64 a, .int .i64 b, .int .i64 c]⟩)] = some [.int .i64 a, .int .i64 b, .int .i64 c] := fun _ _ _ => rfl
    have hpush := ho4.push (by rw [hearTo_len]; omega) (K.getD i 0) (max 0 (tl - er)) (min 1000000000000 (th + la))
    rw [← ex] at hpush
    have p5 := pushT_at (l := hearTo l er la K i) (x := hearM l er la K i) c4 (ho4.aside (by omega))
    have hst5 := store_e2 (w := pushV J4 (hearTo l er la K i).length) p5 rfl rfl
    have own2 := ho4.pushedL (by have := (List.getElem?_eq_some_iff.1 c4).1; omega) (hearM l er la K i)
    have xB1 : Ext G (pushTH J4 sv (hearTo l er la K i) (hearM l er la K i)) := OwnT.ext (Own.weaken ho4 xB.len) x14 _
    (repeat (first | refine yw ?_ | ((first | apply yd | apply ye); simp (disch := first|exact zz|fail) only [go_sem, kK4.len, kK4.idx, kK4.load, load_at c4, evC, load_at c9, l3 _ g4, l4 _ g4, fill2i, hfm, hf3, hpush, hst5]; with_reducible rfl)))
    (repeat (first | refine yw ?_ | ((first | apply yd | apply ye); simp (disch := first|exact zz|fail) only [go_sem, e1]; with_reducible rfl)))
    refine ⟨hi', pushV J4 (hearTo l er la K i).length, by simp [forget], xB1.set (Nat.le_refl _) _, get_set_self p5, ?_, hin2⟩
    rw [hearTo_succ]
    refine own2.set_ne (.inr ?_) _
    show J4.length + 1 ≠ G.length
    have := x14.len
    omega
  obtain rfl : i = K.length := by omega
  have hr := hown.tris
  obtain ⟨hMe, hwid⟩ := hear_meets hok hE hL hin
  obtain ⟨M, hM⟩ : ∃ M, hearTo l er la K K.length = M := ⟨_, rfl⟩
  have hMl : M.length = K.length := by rw [← hM, hearTo_len]
  have hMp : ∀ j, j < K.length → mP M j = K.getD j 0 := fun j hj => by rw [← hM]; unfold mP; rw [hear_at hj]; rfl
  rw [hM] at hr hMe hwid
  clear hown hM
  (repeat (first | refine yw ?_ | ((first | apply yd | apply ye); simp (disch := first|exact zz|fail) only [go_sem, load_ev cJ]; with_reducible rfl)))
  (refine aops_call_to (rEvErr_c hr (by omega)) ?_)
  by_cases hz2 : evErrL L M = 0
  rotate_left 1
  · (repeat (first | refine yw ?_ | ((first | apply yd | apply ye); simp (disch := first|exact zz|fail) only [go_sem, dec_t (show evErrL L M ≠ 0 from hz2)]; with_reducible rfl)))
    refine cond_t rfl ?_
    (refine yg ?_)
    exact fin_1 rfl
  have hk := evErr_ok hz2
  have hlen := hk.len
  have hfe : fillA [.int .i64 0, .int .i64 0, .slice none 0 0] [(0, 2, .agg ⟨[.int .i64 L.1, .int .i64 L.2]⟩)] = some [.int .i64 L.1, .int .i64 L.2, .slice none 0 0] := rfl
  have hk0 : EvOk L [] := hk.sub (List.nil_sublist _)
  have hnil : Tris J [] (.slice none 0 0) := (OwnT.nil J J).tris
  have hra := rAccepts_c (L := L) hnil hk0 kJ hok
  have eev : evV L (.slice none 0 0) = .agg ⟨[.int .i64 L.1, .int .i64 L.2, .slice none 0 0]⟩ := rfl
  rw [eev] at hra
  (repeat (first | refine yw ?_ | ((first | apply yd | apply ye); simp (disch := first|exact zz|fail) only [go_sem, dec_f (show ¬ evErrL L M ≠ 0 from fun h => h hz2)]; with_reducible rfl)))
  refine cond_f rfl ?_
  (repeat (first | refine yw ?_ | ((first | apply yd | apply ye); simp (disch := first|exact zz|fail) only [go_sem, load_lim cJ, hfe, n1m _ gJ]; with_reducible rfl)))
  (refine aops_call_to (hra) ?_)
  by_cases hr2 : (accGo L [] l).2 ≠ 0
  · (repeat (first | refine yw ?_ | ((first | apply yd | apply ye); simp (disch := first|exact zz|fail) only [go_sem, dec_t hr2]; with_reducible rfl)))
    refine cond_t rfl ?_
    (refine yg ?_)
    exact fin_1 rfl
  have hrate := (AccOk.of hok (Decidable.not_not.1 hr2)).rate
  by_cases hr1 : (accGo L [] l).1 ≠ 0
  · (repeat (first | refine yw ?_ | ((first | apply yd | apply ye); simp (disch := first|exact zz|fail) only [go_sem, dec_f hr2, dec_t hr1]; with_reducible rfl)))
    refine cond_t rfl ?_
    (refine yg ?_)
    exact fin_1 rfl
  (repeat (first | refine yw ?_ | ((first | apply yd | apply ye); simp (disch := first|exact zz|fail) only [go_sem, dec_f hr2, dec_f hr1]; with_reducible rfl)))
  refine cond_f rfl ?_
  clear hra hnil hfe eev
  have hacc := hMe.acc hrate
  have hAcc := AccOk.of hok (show (accGo L M l).2 = 0 by rw [hacc])
  have hN := hAcc.noClash hk
  have hcalm := clashL_none.2 hN
  have h2M : 2 ≤ M.length := by omega
  (repeat (first | refine yw ?_ | ((first | apply yd | apply ye); simp (disch := first|exact zz|fail) only [go_sem, load_ev cJ]; with_reducible rfl)))
  refine adraw_call (copyEv_c hr (by omega)) ?_
  have hC : Tris (J ++ [.cells true 3 (flat3 M)]) M (.slice (some ⟨J.length, 0, none⟩) M.length M.length) := Tris.last M.length
  have x7 : Ext J (J ++ [AObj.cells true 3 (flat3 M)]) := (Ext.refl J).app _
  obtain ⟨J7, hJ7⟩ : ∃ J7, J ++ [AObj.cells true 3 (flat3 M)] = J7 := ⟨_, rfl⟩
  rw [hJ7] at hC x7 ⊢
  clear hJ7
  (repeat (first | refine yw ?_ | ((first | apply yd | apply ye); simp (disch := first|exact zz|fail) only [go_sem, n1m _ (x7.cell gJ)]; with_reducible rfl)))
  refine adraw_call (copyMap_c (kJ.ext x7) (by omega)) ?_
  have hD : Pairs (J7 ++ [.cells true 2 (flatP l)]) l (.slice (some ⟨J7.length, 0, none⟩) l.length l.length) := Pairs.last l.length
  have x8 : Ext J7 (J7 ++ [AObj.cells true 2 (flatP l)]) := (Ext.refl J7).app _
  obtain ⟨J8, hJ8⟩ : ∃ J8, J7 ++ [AObj.cells true 2 (flatP l)] = J8 := ⟨_, rfl⟩
  rw [hJ8] at hD x8 ⊢
  clear hJ8
  (refine yg ?_)
  (refine adraw_call (N := []) (firstD (accepts_c (hC.ext x8) (by omega) hD (by omega))) ?_; rw [List.append_nil])
  have hev : ∀ l', mapErrL l' = 0 → accGo L M l' = (0, 0) → accL L M l' = (0, 0) := fun l' e1 e2 => by
    unfold accL accE
    rw [hz2, e1, if_neg (by decide), e2]
  rw [hev l hz hacc]
  (repeat (first | refine yw ?_ | ((first | apply yd | apply ye); simp (disch := first|exact zz|fail) only [go_sem, un0]; with_reducible rfl)))
  refine cond_f rfl ?_
  have x08 := x7.trans x8
  have g8 := x08.cell gJ
  have c8 := x08.cell cJ
  have k8 := kJ.ext x08
  have kK8 := kKJ.ext x08
  have hr8 := hr.ext x08
  clear hC hD x7 x8 gJ cJ kJ kKJ hr
  (repeat (first | refine yw ?_ | ((first | apply yd | apply ye); simp (disch := first|exact zz|fail) only [go_sem, load_ev c8]; with_reducible rfl)))
  (refine aops_call_to (copyEv_c hr8 (by omega)) ?_)
  have hC : Tris (J8 ++ [.cells true 3 (flat3 M)]) M (.slice (some ⟨J8.length, 0, none⟩) M.length M.length) := Tris.last M.length
  have x9 : Ext J8 (J8 ++ [AObj.cells true 3 (flat3 M)]) := (Ext.refl J8).app _
  (refine yg ?_)
  generalize (J8 ++ [AObj.cells true 3 (flat3 M)] : AHeap) = J9 at hC x9
  (refine aops_call_to (clashOf_c hC (by omega)) ?_)
  have ez : clashOfL L M = ((0, 0), 12) := by unfold clashOfL; rw [if_neg (fun h => h hz2), hcalm]
  rw [ez]
  (repeat (first | refine yw ?_ | ((first | apply yd | apply ye); simp (disch := first|exact zz|fail) only [go_sem, store_newF, un12]; with_reducible rfl)))
  refine cond_f rfl ?_
  have x10 : Ext J9 (J9 ++ [AObj.cells true 0 [.int .i64 ((0, 0) : Int × Int).1, .int .i64 ((0, 0) : Int × Int).2]]) := (Ext.refl J9).app _
  generalize (J9 ++ [AObj.cells true 0 [.int .i64 ((0, 0) : Int × Int).1, .int .i64 ((0, 0) : Int × Int).2]] : AHeap) = J10 at x10
  have x810 := x9.trans x10
  have g10 := x810.cell g8
  have c10 := x810.cell c8
  have k10 := k8.ext x810
  have kK10 := kK8.ext x810
  have hr10 := hr8.ext x810
  clear hC x9 x10 g8 c8 k8 kK8 hr8
  have ef : fewE L M = 0 := by unfold fewE; rw [hz2, firstErr_z, if_pos h2M]; rfl
  have ea : anyErr L M = 0 := by unfold anyErr; rw [if_neg (fun h => h ef), if_pos hcalm]
  have erA : anyRes L M = anyL L M := by unfold anyRes; rw [ea, if_pos rfl]
  have hokA := any_ok hk hN h2M
  have haccA := any_acc hk hN h2M
  have hwide : idxF wideB M 0 M.length = none := idxF_any.2 fun k _ hkl => decide_eq_false (by have := hwid k (by omega); omega)
  have efw : fewErr L M = 0 := by unfold fewErr; rw [if_neg (fun h => h ef), hwide]; rfl
  (repeat (first | refine yw ?_ | ((first | apply yd | apply ye); simp (disch := first|exact zz|fail) only [go_sem, load_ev c10]; with_reducible rfl)))
  (refine aops_call_to (copyEv_c hr10 (by omega)) ?_)
  have hC : Tris (J10 ++ [.cells true 3 (flat3 M)]) M (.slice (some ⟨J10.length, 0, none⟩) M.length M.length) := Tris.last M.length
  have x11 : Ext J10 (J10 ++ [AObj.cells true 3 (flat3 M)]) := (Ext.refl J10).app _
  (refine yg ?_)
  generalize (J10 ++ [AObj.cells true 3 (flat3 M)] : AHeap) = J11 at hC x11
  refine aops_call ((anyMap_c hC (by omega)).mono fun w J12 ⟨x12, ru, hw, hru⟩ => ?_)
  subst hw
  rw [ea]
  rw [erA] at hru
  have rua : isAtom ru = true := Sl.atom hru
  have hst : storeR 1 (.pointer (some ⟨J12.length, 0, none⟩)) (.agg ⟨[ru]⟩) (J12 ++ [.cells true 0 [.slice none 0 0]]) = some (undef, J12 ++ [.cells true 0 [ru]]) := store_newA rua
  have c17 : (J12 ++ [AObj.cells true 0 [ru]])[J12.length]? = some (.cells true 0 [ru]) := at_new
  have x13 : Ext J12 (J12 ++ [AObj.cells true 0 [ru]]) := (Ext.refl J12).app _
  (repeat (first | refine yw ?_ | ((first | apply yd | apply ye); simp (disch := first|exact zz|fail) only [go_sem, hst]; with_reducible rfl)))
  clear hst
  generalize (J12 ++ [AObj.cells true 0 [ru]] : AHeap) = J13 at c17 x13
  have hru := hru.ext x13
  have x1013 := x11.trans (x12.trans x13)
  have g13 := x1013.cell g10
  have c13 := x1013.cell c10
  have k13 := k10.ext x1013
  have kK13 := kK10.ext x1013
  have hr13 := hr10.ext x1013
  clear hC x11 x12 x13 g10 c10 k10 kK10 hr10
  (repeat (first | refine yw ?_ | ((first | apply yd | apply ye); simp (disch := first|exact zz|fail) only [go_sem, load_ev c13]; with_reducible rfl)))
  (refine aops_call_to (copyEv_c hr13 (by omega)) ?_)
  have hC : Tris (J13 ++ [.cells true 3 (flat3 M)]) M (.slice (some ⟨J13.length, 0, none⟩) M.length M.length) := Tris.last M.length
  have x14 : Ext J13 (J13 ++ [AObj.cells true 3 (flat3 M)]) := (Ext.refl J13).app _
  (refine yg ?_)
  generalize (J13 ++ [AObj.cells true 3 (flat3 M)] : AHeap) = J14 at hC x14
  refine aops_call ((fewest_c hC (by omega)).mono fun w J15 ⟨x15, rf, lf, ee, hw, hrf, hres⟩ => ?_)
  subst hw
  obtain ⟨rfl, sf, hch, hmin⟩ : ee = 0 ∧ ∃ s, ChainL L M 0 s lf ∧ ∀ s' n, Chain L M 0 s' n → lf.length ≤ n := by
    rcases hres with ⟨h1, _⟩ | ⟨_, _, _, h5⟩ | ⟨_, h3, h4⟩
    · exact absurd efw h1
    · exact absurd (chain_any hk hN (r := M.length - 1) (i := 0) (by omega)) (h5 _ _)
    · exact ⟨h3, h4⟩
  have hco := hch.course hk
  have hlf2 : 2 ≤ lf.length := by
    have h6 := hco.one
    have h7 := hco.pos
    refine Decidable.byContradiction fun hn => ?_
    have := h6 (by omega)
    omega
  have hokF := hco.mapOk hk hlf2
  have haccF := course_acc hk hco hlf2
  have rfa : isAtom rf = true := Sl.atom hrf
  have hst : storeR 1 (.pointer (some ⟨J15.length, 0, none⟩)) (.agg ⟨[rf]⟩) (J15 ++ [.cells true 0 [.slice none 0 0]]) = some (undef, J15 ++ [.cells true 0 [rf]]) := store_newA rfa
  have c19 : (J15 ++ [AObj.cells true 0 [rf]])[J15.length]? = some (.cells true 0 [rf]) := at_new
  have x16 : Ext J15 (J15 ++ [AObj.cells true 0 [rf]]) := (Ext.refl J15).app _
  (repeat (first | refine yw ?_ | ((first | apply yd | apply ye); simp (disch := first|exact zz|fail) only [go_sem, hst]; with_reducible rfl)))
  clear hst
  generalize (J15 ++ [AObj.cells true 0 [rf]] : AHeap) = J16 at c19 x16
  have hrf := hrf.ext x16
  have x1316 := x14.trans (x15.trans x16)
  have g16 := x1316.cell g13
  have c16 := x1316.cell c13
  have c17 := x1316.cell c17
  have hru := hru.ext x1316
  have k16 := k13.ext x1316
  have kK16 := kK13.ext x1316
  have hr16 := hr13.ext x1316
  clear hC x14 x15 x16 g13 c13 k13 kK13 hr13
  have a20 : (anyL L M).length ≤ 20 := hokA.hi
  have f20 : lf.length ≤ 20 := hokF.hi
  (repeat (first | refine yw ?_ | ((first | apply yd | apply ye); simp (disch := first|exact zz|fail) only [go_sem, un0, n1_at c17]; with_reducible rfl)))
  (refine aops_call_to (few_c hru) ?_)
  (repeat (first | refine yw ?_ | ((first | apply yd | apply ye); simp (disch := first|exact zz|fail) only [go_sem, dec_t (show (anyL L M).length ≤ 22 by omega), n1_at c19]; with_reducible rfl)))
  (refine aops_call_to (few_c hrf) ?_)
  (repeat (first | refine yw ?_ | ((first | apply yd | apply ye); simp (disch := first|exact zz|fail) only [go_sem, dec_t (show lf.length ≤ 22 by omega), n1_at c17]; with_reducible rfl)))
  (refine aops_call_to (rMapErr_c hru (by omega)) ?_)
  rw [hokA.err]
  (repeat (first | refine yw ?_ | ((first | apply yd | apply ye); simp (disch := first|exact zz|fail) only [go_sem, un0, n1_at c19]; with_reducible rfl)))
  (refine aops_call_to (rMapErr_c hrf (by omega)) ?_)
  rw [hokF.err]
  (repeat (first | refine yw ?_ | ((first | apply yd | apply ye); simp (disch := first|exact zz|fail) only [go_sem, un0]; with_reducible rfl)))
  refine cond_f rfl ?_
  have e00 : mP M 0 = K.getD 0 0 := hMp 0 (by omega)
  have e01 : mP M (M.length - 1) = K.getD (K.length - 1) 0 := by rw [hMl]; exact hMp (K.length - 1) (by omega)
  have in0 := hin 0 (by omega)
  have in1 := hin (K.length - 1) (by omega)
  have lt01 := hk.lt (show 0 < M.length - 1 by omega) (by omega)
  have p00 := hk.pos 0 (by omega)
  have p01 := hk.pos (M.length - 1) (by omega)
  have ix0 := kK16.idx (H' := J16) (i := 0) (k := .i64) (by omega) (by omega)
  have ix1 := kK16.idx (H' := J16) (i := (K.length : Int) - 1) (k := .i64) (by omega) (by omega)
  rw [show (0 : Int).toNat = 0 from rfl] at ix0
  rw [show ((K.length : Int) - 1).toNat = K.length - 1 by omega] at ix1
  have ld0 := kK16.load (Ext.refl J16) (show 0 < K.length by omega)
  have ld1 := kK16.load (Ext.refl J16) (show K.length - 1 < K.length by omega)
  have kKl := fun J => hK.len (H' := J)
  have u0 : (M.getD 0 (0, 0, 0)).1 = K.getD 0 0 := e00
  have u1 : (M.getD (M.length - 1) (0, 0, 0)).1 = K.getD (K.length - 1) 0 := e01
  rw [u0] at p00 lt01
  rw [u1] at p01 lt01
  obtain ⟨f0, hf0⟩ : ∃ f0, K.getD 0 0 = f0 := ⟨_, rfl⟩
  obtain ⟨z0, hz0⟩ : ∃ z0, K.getD (K.length - 1) 0 = z0 := ⟨_, rfl⟩
  rw [hf0] at ld0 e00 in0 p00 lt01
  rw [hz0] at ld1 e01 in1 p01 lt01
  clear u0 u1 hf0 hz0
  obtain ⟨d, hd⟩ : ∃ d, z0 - f0 + 1 = d := ⟨_, rfl⟩
  have m0 := Int.emod_nonneg at0 (show d ≠ 0 by omega)
  have m0' := Int.emod_lt_of_pos at0 (show 0 < d by omega)
  (repeat (first | refine yw ?_ | ((first | apply yd | apply ye); simp (disch := first|exact zz|fail) only [go_sem, ix0, ix1, ld0, ld1, kKl, hd]; with_reducible rfl)))
  (refine aops_call_to (bmodW_c at0 d (by omega)) ?_)
  obtain ⟨q, hq⟩ : ∃ q, f0 + at0 % d = q := ⟨_, rfl⟩
  have bq : f0 ≤ q ∧ q ≤ z0 := by omega
  have iq : 0 ≤ q ∧ q ≤ 1000000 := by omega
  have hEn : encAtL L M q = (encTo L M q M.length, 0) := by rw [enc_z hz2 iq (by omega), if_pos hcalm]
  (repeat (first | refine yw ?_ | ((first | apply yd | apply ye); simp (disch := first|exact zz|fail) only [go_sem, hq, load_ev c16]; with_reducible rfl)))
  (refine aops_call_to (copyEv_c hr16 (by omega)) ?_)
  have hC : Tris (J16 ++ [.cells true 3 (flat3 M)]) M (.slice (some ⟨J16.length, 0, none⟩) M.length M.length) := Tris.last M.length
  have x17 : Ext J16 (J16 ++ [AObj.cells true 3 (flat3 M)]) := (Ext.refl J16).app _
  (refine yg ?_)
  generalize (J16 ++ [AObj.cells true 3 (flat3 M)] : AHeap) = J17 at hC x17
  (refine aops_call_to (encAt_c hC (by omega)) ?_)
  rw [hEn]
  obtain ⟨ml, hml⟩ : ∃ ml : List (List (Int × Int)), ml = [l, anyL L M, lf] := ⟨_, rfl⟩
  obtain ⟨mv, hmv⟩ : ∃ mv : List Value, mv = [u, ru, rf] := ⟨_, rfl⟩
  have hokAll : ∀ i, i < 3 → MapOk (ml.getD i []) := fun i hi => by
    rw [hml]
    match i, hi with
    | 0, _ => exact hok
    | 1, _ => exact hokA
    | 2, _ => exact hokF
  have haccAll : ∀ i, i < 3 → accGo L M (ml.getD i []) = (0, 0) := fun i hi => by
    rw [hml]
    match i, hi with
    | 0, _ => exact hacc
    | 1, _ => exact haccA
    | 2, _ => exact haccF
  have hinAll : ∀ i, i < 3 → ((ml.getD i []).getD 0 (0, 0)).1 ≤ q ∧ q ≤ ((ml.getD i []).getD ((ml.getD i []).length - 1) (0, 0)).1 := fun i hi => by
    rw [hml]
    match i, hi with
    | 0, _ => exact ⟨Int.le_trans in0.1 bq.1, Int.le_trans bq.2 in1.2⟩
    | 1, _ =>
      show ((anyL L M).getD 0 (0, 0)).1 ≤ q ∧ q ≤ ((anyL L M).getD ((anyL L M).length - 1) (0, 0)).1
      rw [anyL_len, anyL_at (by omega), anyL_at (by omega)]
      have e1 : (M.getD 0 (0, 0, 0)).1 = f0 := e00
      have e2 : (M.getD (M.length - 1) (0, 0, 0)).1 = z0 := e01
      rw [e1, e2]
      exact bq
    | 2, _ =>
      show (lf.getD 0 (0, 0)).1 ≤ q ∧ q ≤ (lf.getD (lf.length - 1) (0, 0)).1
      rw [hco.head, hco.endAt, e01]
      show mP M 0 ≤ q ∧ _
      rw [e00]
      exact bq
  have hencAll : ∀ i, i < 3 → (encTo L M q M.length).1 ≤ mapTimLo (ml.getD i []) q ∧ mapTimHi (ml.getD i []) q ≤ (encTo L M q M.length).2 := fun i hi => (AccOk.of (hokAll i hi) (by rw [haccAll i hi])).enc hk (by omega) (hinAll i hi)
  have hPAll : ∀ (J : AHeap), Ext J16 J → ∀ i, i < 3 → Pairs J (ml.getD i []) (mv.getD i undef) := fun J hx i hi => by
    rw [hml, hmv]
    match i, hi with
    | 0, _ => exact k16.ext hx
    | 1, _ => exact hru.ext hx
    | 2, _ => exact hrf.ext hx
  have hmvl : mv.length = 3 := by rw [hmv]; rfl
  have ua : isAtom u = true := Sl.atom hm
  have hf9 : fillA [.slice none 0 0, .slice none 0 0, .slice none 0 0] [(0, 1, .agg ⟨[u]⟩), (1, 1, .agg ⟨[ru]⟩), (2, 1, .agg ⟨[rf]⟩)] = some mv := by
    rw [hmv]; simp [fillA, Value.cells, setCells, ua, rua, rfa]
  generalize encTo L M q M.length = r at *
  (repeat (first | refine yw ?_ | ((first | apply yd | apply ye); simp (disch := first|exact zz|fail) only [go_sem, store_newF, un0]; with_reducible rfl)))
  refine cond_f rfl ?_
  have c24 : (J17 ++ [AObj.cells true 0 [.int .i64 r.1, .int .i64 r.2]])[J17.length]? = some (.cells true 0 [.int .i64 r.1, .int .i64 r.2]) := at_new
  have x18 : Ext J17 (J17 ++ [AObj.cells true 0 [.int .i64 r.1, .int .i64 r.2]]) := (Ext.refl J17).app _
  generalize (J17 ++ [AObj.cells true 0 [.int .i64 r.1, .int .i64 r.2]] : AHeap) = J18 at c24 x18
  have x168 := x17.trans x18
  have g18 := x168.cell g16
  have c17 := x168.cell c17
  have c19 := x168.cell c19
  have hma : mv.all isAtom = true := by rw [hmv]; simp [ua, rua, rfa]
  (repeat (first | refine yw ?_ | ((first | apply yd | apply ye); simp (disch := first|exact zz|fail) only [go_sem, n1m _ g18, n1_at c17, n1_at c19, hf9]; with_reducible rfl)))
  clear hf9 hma
  have c26 : (J18 ++ [AObj.cells true 1 mv])[J18.length]? = some (.cells true 1 mv) := at_new
  have x19 : Ext J18 (J18 ++ [AObj.cells true 1 mv]) := (Ext.refl J18).app _
  generalize (J18 ++ [AObj.cells true 1 mv] : AHeap) = J19 at c26 x19
  have x1619 := x168.trans x19
  have c24 := x19.cell c24
  have hix : ∀ (J : AHeap) (i : Nat), i < 3 → idxR 1 (.slice (some ⟨J18.length, 0, none⟩) 3 3) (.int .i64 (i : Nat)) J = some (.pointer (some ⟨J18.length, i, none⟩), J) := fun J i hi => by
    simp only [idxR]
    rw [if_pos (by omega)]
    simp
  have hld : ∀ (J : AHeap) (i : Nat), i < 3 → J[J18.length]? = some (.cells true 1 mv) → loadNR 1 (.pointer (some ⟨J18.length, i, none⟩)) J = some (.agg ⟨[mv.getD i undef]⟩, J) := fun J i hi hJ => by
    rw [loadN_at hJ (by omega)]
    have : (mv.drop i).take 1 = [mv.getD i undef] := by
      rw [hmv]
      match i, hi with
      | 0, _ => rfl
      | 1, _ => rfl
      | 2, _ => rfl
    rw [this]
  (refine yg ?_)
  refine awp_loop_n [false, true, false, true, false, false, false, true, false, false, false, false, false, false, false, false, false, false, false, true, false, true, true, true, true, false, true, true, false, false, false, false, false, false, false, false, false, false, false, false, false, false, false, false, false, false, false, false, false, false, false, false, false, false, false, false, false, false, false, false, false, false, false, false, false, false, false, false, false, false, false, false, false, false, false, false, false, false, false, false, false, false, false, false, false, false, false, false, false, false, false, false, false, false, false, false, false, false, false, false, false, false, false, false, false, false, false, false, false, false, false, false, false, false, false, false, false, false, false, false, false, false, false, false, false, false, false, false, false, false, false, false, false, false, false, false, false, false, false, false, false, false, false, false, false, false, false, false, false, false, false, false, false, false, false, false, false, false, false, false, false, false, false, false, false, false, false, false, false, false, false, false, false, false, false, false, false, false, false, false, false, false, false, false, false, false, false, false, false, false, false, false, false, false, false, false, false, false, false, false, false, false, false, false, false, false, false, false, false, false, false, false, false, false, false, false, false, false, false, false, false, false, false, false, false, false, false, false, false, false, false, false, false, false, false, false, false, false, false, false, false, false, false, false, false, false, false, false, false, false, false, false, false, false, false, false, false, false, false, false, false, false, false, false, false, false, false, false, false, false, false, false, false, false, false, false, false, false, false, false, false, false, false, false, false, false, false, false, false, false, false, false, false, false, false, false, false, false, false, false, false, false, false, false, false, false, false, false, false, false, false, false, false, false, false, false, false, false, false, false, false, false, false, false, false, false, false, false, false, false, false, false, false, false, false, false, false, false, false, false, false, false, false, false, false, false, false, false, false, false, false, false, false, false, false, false] 3 (fun i e J => e = [junk, b, junk, .pointer (some ⟨H.length, 0, none⟩), junk, junk, junk, .pointer (some ⟨G.length, 0, none⟩), junk, junk, junk, junk, junk, junk, junk, junk, junk, junk, junk, .pointer (some ⟨J15.length, 0, none⟩), junk, .int .i64 f0, .int .i64 z0, .int .i64 q, .pointer (some ⟨J17.length, 0, none⟩), junk, .slice (some ⟨J18.length, 0, none⟩) 3 3, .int .i64 (i : Nat), junk, junk, junk, junk, junk, junk, junk, junk, junk, junk, junk, junk, junk, junk, junk, junk, junk, junk, junk, junk, junk, junk, junk, junk, junk, junk, junk, junk, junk, junk, junk, junk, junk, junk, junk, junk, junk, junk, junk, junk, junk, junk, junk, junk, junk, junk, junk, junk, junk, junk, junk, junk, junk, junk, junk, junk, junk, junk, junk, junk, junk, junk, junk, junk, junk, junk, junk, junk, junk, junk, junk, junk, junk, junk, junk, junk, junk, junk, junk, junk, junk, junk, junk, junk, junk, junk, junk, junk, junk, junk, junk, junk, junk, junk, junk, junk, junk, junk, junk, junk, junk, junk, junk, junk, junk, junk, junk, junk, junk, junk, junk, junk, junk, junk, junk, junk, junk, junk, junk, junk, junk, junk, junk, junk, junk, junk, junk, junk, junk, junk, junk, junk, junk, junk, junk, junk, junk, junk, junk, junk, junk, junk, junk, junk, junk, junk, junk, junk, junk, junk, junk, junk, junk, junk, junk, junk, junk, junk, junk, junk, junk, junk, junk, junk, junk, junk, junk, junk, junk, junk, junk, junk, junk, junk, junk, junk, junk, junk, junk, junk, junk, junk, junk, junk, junk, junk, junk, junk, junk, junk, junk, junk, junk, junk, junk, junk, junk, junk, junk, junk, junk, junk, junk, junk, junk, junk, junk, junk, junk, junk, junk, junk, junk, junk, junk, junk, junk, junk, junk, junk, junk, junk, junk, junk, junk, junk, junk, junk, junk, junk, junk, junk, junk, junk, junk, junk, junk, junk, junk, junk, junk, junk, junk, junk, junk, junk, junk, junk, junk, junk, junk, junk, junk, junk, junk, junk, junk, junk, junk, junk, junk, junk, junk, junk, junk, junk, junk, junk, junk, junk, junk, junk, junk, junk, junk, junk, junk, junk, junk, junk, junk, junk, junk, junk, junk, junk, junk, junk, junk, junk, junk, junk, junk, junk, junk, junk, junk, junk, junk, junk, junk, junk, junk, junk, junk, junk, junk, junk, junk, junk, junk, junk, junk, junk, junk, junk, junk, junk, junk, junk, junk, junk, junk, junk, junk, junk, junk, junk] ∧ Ext J19 J) ?_ ?_
  · exact ⟨by simp [forget], Ext.refl _⟩
  rintro i e J20 hi ⟨rfl, x20⟩
  have xx := x1619.trans x20
  have g20 := xx.cell g16
  have cev := xx.cell c16
  have c19' := xx.cell (show J16[J15.length]? = _ from by assumption)
  have d26 := x20.cell c26
  have d24 := x20.cell c24
  have hr20 := hr16.ext xx
  have kK20 := kK16.ext xx
  have k20 := k16.ext xx
  (refine yg ?_)
  refine cond_p rfl (fun hlt => ?_) (fun hge => ?_)
  · have hi3 : i < 3 := by omega
    have e1 : (i : Int) + 1 = ((i + 1 : Nat) : Int) := by omega
    have hP := hPAll J20 xx i hi3
    have okI := hokAll i hi3
    have accI := haccAll i hi3
    have inI := hinAll i hi3
    have enI := hencAll i hi3
    have ixI := fun J => hix J i hi3
    have ldI := fun J hJ => hld J i hi3 hJ
    obtain ⟨li, hli⟩ : ∃ li, ml.getD i [] = li := ⟨_, rfl⟩
    obtain ⟨ui, hui⟩ : ∃ ui, mv.getD i undef = ui := ⟨_, rfl⟩
    rw [hli] at hP okI accI inI enI
    simp only [hui] at ldI
    rw [hui] at hP
    have lo2 := okI.lo
    have hi2 := okI.hi
    have hT := timeAt_in okI inI.1 inI.2
    have hfi2 := rFirst_c hP (by omega)
    have hla2 := rLast_c hP (by omega) (by omega)
    obtain ⟨A1, hA1⟩ : ∃ A1, li.getD 0 (0, 0) = A1 := ⟨_, rfl⟩
    obtain ⟨Z1, hZ1⟩ : ∃ Z1, li.getD (li.length - 1) (0, 0) = Z1 := ⟨_, rfl⟩
    rw [hA1] at hfi2 inI
    rw [hZ1] at hla2 inI
    (repeat (first | refine yw ?_ | ((first | apply yd | apply ye); simp (disch := first|exact zz|fail) only [go_sem, ixI, ldI _ d26]; with_reducible rfl)))
    (refine aops_call_to (hfi2) ?_)
    (repeat (first | refine yw ?_ | ((first | apply yd | apply ye); simp (disch := first|exact zz|fail) only [go_sem, dec_f (show ¬ A1.1 > q by omega), ixI, ldI _ d26]; with_reducible rfl)))
    (refine aops_call_to (hla2) ?_)
    (repeat (first | refine yw ?_ | ((first | apply yd | apply ye); simp (disch := first|exact zz|fail) only [go_sem, dec_f (show ¬ Z1.1 < q by omega)]; with_reducible rfl)))
    refine cond_f rfl ?_
    (repeat (first | refine yw ?_ | ((first | apply yd | apply ye); simp (disch := first|exact zz|fail) only [go_sem, ixI, ldI _ d26]; with_reducible rfl)))
    (refine aops_call_to (copyMap_c hP (by omega)) ?_)
    have hD : Pairs (J20 ++ [.cells true 2 (flatP li)]) li (.slice (some ⟨J20.length, 0, none⟩) li.length li.length) := Pairs.last li.length
    have x21 : Ext J20 (J20 ++ [AObj.cells true 2 (flatP li)]) := (Ext.refl J20).app _
    (refine yg ?_)
    generalize (J20 ++ [AObj.cells true 2 (flatP li)] : AHeap) = J21 at hD x21
    (refine aops_call_to (sTimeAtF_c hD (by omega)) ?_)
    rw [hT]
    generalize mapTimLo li q = tl at *
    generalize mapTimHi li q = th at *
    (repeat (first | refine yw ?_ | ((first | apply yd | apply ye); simp (disch := first|exact zz|fail) only [go_sem, store_newF]; with_reducible rfl)))
    have c28 : (J21 ++ [AObj.cells true 0 [.int .i64 tl, .int .i64 th]])[J21.length]? = some (.cells true 0 [.int .i64 tl, .int .i64 th]) := at_new
    have x22 : Ext J21 (J21 ++ [AObj.cells true 0 [.int .i64 tl, .int .i64 th]]) := (Ext.refl J21).app _
    generalize (J21 ++ [AObj.cells true 0 [.int .i64 tl, .int .i64 th]] : AHeap) = J22 at c28 x22
    have x2022 := x21.trans x22
    have f24 := x2022.cell d24
    have f26 := x2022.cell d26
    have fev := x2022.cell cev
    have hr22 := hr20.ext x2022
    have hP22 := hP.ext x2022
    (repeat (first | refine yw ?_ | ((first | apply yd | apply ye); simp (disch := first|exact zz|fail) only [go_sem, un0, load_at c28, load_at f24, dec_f (show ¬ tl < r.1 by omega), dec_f (show ¬ th > r.2 by omega)]; with_reducible rfl)))
    refine cond_f rfl ?_
    (repeat (first | refine yw ?_ | ((first | apply yd | apply ye); simp (disch := first|exact zz|fail) only [go_sem, load_ev fev]; with_reducible rfl)))
    refine adraw_call (copyEv_c hr22 (by omega)) ?_
    have hC : Tris (J22 ++ [.cells true 3 (flat3 M)]) M (.slice (some ⟨J22.length, 0, none⟩) M.length M.length) := Tris.last M.length
    have x23 : Ext J22 (J22 ++ [AObj.cells true 3 (flat3 M)]) := (Ext.refl J22).app _
    obtain ⟨J23, hJ23⟩ : ∃ J23, J22 ++ [AObj.cells true 3 (flat3 M)] = J23 := ⟨_, rfl⟩
    rw [hJ23] at hC x23 ⊢
    clear hJ23
    (repeat (first | refine yw ?_ | ((first | apply yd | apply ye); simp (disch := first|exact zz|fail) only [go_sem, ixI, ldI _ (x23.cell f26)]; with_reducible rfl)))
    refine adraw_call (copyMap_c (hP22.ext x23) (by omega)) ?_
    have hD : Pairs (J23 ++ [.cells true 2 (flatP li)]) li (.slice (some ⟨J23.length, 0, none⟩) li.length li.length) := Pairs.last li.length
    have x24 : Ext J23 (J23 ++ [AObj.cells true 2 (flatP li)]) := (Ext.refl J23).app _
    obtain ⟨J24, hJ24⟩ : ∃ J24, J23 ++ [AObj.cells true 2 (flatP li)] = J24 := ⟨_, rfl⟩
    rw [hJ24] at hD x24 ⊢
    clear hJ24
    (refine yg ?_)
    (refine adraw_call (N := []) (firstD (accepts_c (hC.ext x24) (by omega) hD (by omega))) ?_; rw [List.append_nil])
    rw [hev li okI.err accI]
    (repeat (first | refine yw ?_ | ((first | apply yd | apply ye); simp (disch := first|exact zz|fail) only [go_sem, un0]; with_reducible rfl)))
    refine cond_f rfl ?_
    (repeat (first | refine yw ?_ | ((first | apply yd | apply ye); simp (disch := first|exact zz|fail) only [go_sem, e1]; with_reducible rfl)))
    exact ⟨by omega, by simp [forget], x20.trans (x2022.trans (x23.trans x24))⟩
  clear hix hld hPAll hencAll hinAll haccAll hokAll
  (refine yg ?_)
  refine awp_loop_n [false, true, false, true, false, false, false, false, false, false, false, false, false, false, false, false, false, false, false, true, false, true, true, false, false, false, false, false, false, false, false, false, true, true, false, false, false, false, false, false, false, false, false, false, false, false, false, false, false, false, false, false, false, false, false, false, false, false, false, false, false, false, false, false, false, false, false, false, false, false, false, false, false, false, false, false, false, false, false, false, false, false, false, false, false, false, false, false, false, false, false, false, false, false, false, false, false, false, false, false, false, false, false, false, false, false, false, false, false, false, false, false, false, false, false, false, false, false, false, false, false, false, false, false, false, false, false, false, false, false, false, false, false, false, false, false, false, false, false, false, false, false, false, false, false, false, false, false, false, false, false, false, false, false, false, false, false, false, false, false, false, false, false, false, false, false, false, false, false, false, false, false, false, false, false, false, false, false, false, false, false, false, false, false, false, false, false, false, false, false, false, false, false, false, false, false, false, false, false, false, false, false, false, false, false, false, false, false, false, false, false, false, false, false, false, false, false, false, false, false, false, false, false, false, false, false, false, false, false, false, false, false, false, false, false, false, false, false, false, false, false, false, false, false, false, false, false, false, false, false, false, false, false, false, false, false, false, false, false, false, false, false, false, false, false, false, false, false, false, false, false, false, false, false, false, false, false, false, false, false, false, false, false, false, false, false, false, false, false, false, false, false, false, false, false, false, false, false, false, false, false, false, false, false, false, false, false, false, false, false, false, false, false, false, false, false, false, false, false, false, false, false, false, false, false, false, false, false, false, false, false, false, false, false, false, false, false, false, false, false, false, false, false, false, false, false, false, false, false, false, false, false, false, false, false, false] l.length (fun n e J => e = [junk, b, junk, .pointer (some ⟨H.length, 0, none⟩), junk, junk, junk, junk, junk, junk, junk, junk, junk, junk, junk, junk, junk, junk, junk, .pointer (some ⟨J15.length, 0, none⟩), junk, .int .i64 f0, .int .i64 z0, junk, junk, junk, junk, junk, junk, junk, junk, junk, .int .i64 (cntTo l f0 z0 n : Nat), .int .i64 (n : Nat), junk, junk, junk, junk, junk, junk, junk, junk, junk, junk, junk, junk, junk, junk, junk, junk, junk, junk, junk, junk, junk, junk, junk, junk, junk, junk, junk, junk, junk, junk, junk, junk, junk, junk, junk, junk, junk, junk, junk, junk, junk, junk, junk, junk, junk, junk, junk, junk, junk, junk, junk, junk, junk, junk, junk, junk, junk, junk, junk, junk, junk, junk, junk, junk, junk, junk, junk, junk, junk, junk, junk, junk, junk, junk, junk, junk, junk, junk, junk, junk, junk, junk, junk, junk, junk, junk, junk, junk, junk, junk, junk, junk, junk, junk, junk, junk, junk, junk, junk, junk, junk, junk, junk, junk, junk, junk, junk, junk, junk, junk, junk, junk, junk, junk, junk, junk, junk, junk, junk, junk, junk, junk, junk, junk, junk, junk, junk, junk, junk, junk, junk, junk, junk, junk, junk, junk, junk, junk, junk, junk, junk, junk, junk, junk, junk, junk, junk, junk, junk, junk, junk, junk, junk, junk, junk, junk, junk, junk, junk, junk, junk, junk, junk, junk, junk, junk, junk, junk, junk, junk, junk, junk, junk, junk, junk, junk, junk, junk, junk, junk, junk, junk, junk, junk, junk, junk, junk, junk, junk, junk, junk, junk, junk, junk, junk, junk, junk, junk, junk, junk, junk, junk, junk, junk, junk, junk, junk, junk, junk, junk, junk, junk, junk, junk, junk, junk, junk, junk, junk, junk, junk, junk, junk, junk, junk, junk, junk, junk, junk, junk, junk, junk, junk, junk, junk, junk, junk, junk, junk, junk, junk, junk, junk, junk, junk, junk, junk, junk, junk, junk, junk, junk, junk, junk, junk, junk, junk, junk, junk, junk, junk, junk, junk, junk, junk, junk, junk, junk, junk, junk, junk, junk, junk, junk, junk, junk, junk, junk, junk, junk, junk, junk, junk, junk, junk, junk, junk, junk, junk, junk, junk, junk, junk, junk, junk, junk, junk, junk, junk, junk, junk, junk, junk, junk, junk, junk, junk, junk, junk, junk, junk, junk, junk, junk, junk, junk, junk, junk, junk, junk, junk, junk] ∧ Ext J20 J ∧
    ∀ i, i < n → f0 ≤ (l.getD i (0, 0)).1 → (l.getD i (0, 0)).1 ≤ z0 → (l.getD i (0, 0)).1 ∈ K) ?_ ?_
  · exact ⟨by simp [forget, cntTo], Ext.refl _, by omega⟩
  rintro n e J30 hn ⟨rfl, x30, hat⟩
  have g30 := x30.cell g20
  have k30 := k20.ext x30
  have kK30 := kK20.ext x30
  have hcl := cnt_le (l := l) (a := f0) (b := z0) (n := n)
  (repeat (first | refine yw ?_ | ((first | apply yd | apply ye); simp (disch := first|exact zz|fail) only [go_sem, k30.len, k30.idx, k30.load, lu _ g30]; with_reducible rfl)))
  refine cond_p rfl (fun hlt => ?_) (fun hge => ?_)
  · have hn' : n < l.length := by omega
    have e1 : (n : Int) + 1 = ((n + 1 : Nat) : Int) := by omega
    have hcs := cntTo_succ (l := l) (a := f0) (b := z0) (n := n)
    have hstep : ∀ i, i < n + 1 → (f0 ≤ (l.getD n (0, 0)).1 → (l.getD n (0, 0)).1 ≤ z0 → (l.getD n (0, 0)).1 ∈ K) → f0 ≤ (l.getD i (0, 0)).1 → (l.getD i (0, 0)).1 ≤ z0 → (l.getD i (0, 0)).1 ∈ K := fun i hi h1 => by
      by_cases e : i = n
      · subst e; exact h1
      · exact hat i (by omega)
    have ixn := k30.idx (H' := J30) (i := (n : Int)) (k := .i64) (by omega) (by omega)
    rw [Int.toNat_natCast] at ixn
    have ldn := (k30.load (Ext.refl J30) hn').1
    have c34 : (J30 ++ [AObj.cells true 0 [.int .i64 (l.getD n (0, 0)).1, .int .i64 (l.getD n (0, 0)).2]])[J30.length]? = some (.cells true 0 [.int .i64 (l.getD n (0, 0)).1, .int .i64 (l.getD n (0, 0)).2]) := at_new
    have x31 : Ext J30 (J30 ++ [AObj.cells true 0 [.int .i64 (l.getD n (0, 0)).1, .int .i64 (l.getD n (0, 0)).2]]) := (Ext.refl J30).app _
    generalize l.getD n (0, 0) = p at *
    have hst : storeR 2 (.pointer (some ⟨J30.length, 0, none⟩)) (.agg ⟨[.int .i64 p.1, .int .i64 p.2]⟩) (J30 ++ [.cells true 0 [.int .i64 0, .int .i64 0]]) = some (undef, J30 ++ [.cells true 0 [.int .i64 p.1, .int .i64 p.2]]) := store_new2
    obtain ⟨J31, hJ31⟩ : ∃ J31, J30 ++ [AObj.cells true 0 [.int .i64 p.1, .int .i64 p.2]] = J31 := ⟨_, rfl⟩
    rw [hJ31] at hst c34 x31
    have kK31 := kK30.ext x31
    by_cases p1 : p.1 < f0
    · rw [if_neg (by omega)] at hcs
      (repeat (first | refine yw ?_ | ((first | apply yd | apply ye); simp (disch := first|exact zz|fail) only [go_sem, lu _ g30, ixn, ldn, hst, load_at c34, dec_t p1]; with_reducible rfl)))
      refine cond_t rfl ?_
      (repeat (first | refine yw ?_ | ((first | apply yd | apply ye); simp (disch := first|exact zz|fail) only [go_sem, e1]; with_reducible rfl)))
      exact ⟨hn', by simp [forget, hcs], x30.trans x31, fun i hi => hstep i hi (fun h => absurd h (by omega))⟩
    by_cases p2 : p.1 > z0
    · rw [if_neg (by omega)] at hcs
      (repeat (first | refine yw ?_ | ((first | apply yd | apply ye); simp (disch := first|exact zz|fail) only [go_sem, lu _ g30, ixn, ldn, hst, load_at c34, dec_f p1, dec_t p2]; with_reducible rfl)))
      refine cond_t rfl ?_
      (repeat (first | refine yw ?_ | ((first | apply yd | apply ye); simp (disch := first|exact zz|fail) only [go_sem, e1]; with_reducible rfl)))
      exact ⟨hn', by simp [forget, hcs], x30.trans x31, fun i hi => hstep i hi (fun _ h => absurd h (by omega))⟩
    rw [if_pos (by omega)] at hcs
    (repeat (first | refine yw ?_ | ((first | apply yd | apply ye); simp (disch := first|exact zz|fail) only [go_sem, lu _ g30, ixn, ldn, hst, load_at c34, dec_f p1, dec_f p2]; with_reducible rfl)))
    refine cond_f rfl ?_
    (repeat (first | refine yw ?_ | ((first | apply yd | apply ye); simp (disch := first|exact zz|fail) only [go_sem, load_at c34]; with_reducible rfl)))
    (refine aops_call_to (has_c kK31 (by omega)) ?_)
    by_cases hmem : p.1 ∈ K
    rotate_left 1
    · (repeat (first | refine yw ?_ | ((first | apply yd | apply ye); simp (disch := first|exact zz|fail) only [go_sem, dec_f hmem]; with_reducible rfl)))
      refine cond_t rfl ?_
      (refine yg ?_)
      exact fin_1 rfl
    (repeat (first | refine yw ?_ | ((first | apply yd | apply ye); simp (disch := first|exact zz|fail) only [go_sem, dec_t hmem]; with_reducible rfl)))
    refine cond_f rfl ?_
    have e2 : ((cntTo l f0 z0 n : Nat) : Int) + 1 = ((cntTo l f0 z0 (n + 1) : Nat) : Int) := by rw [hcs]; omega
    (repeat (first | refine yw ?_ | ((first | apply yd | apply ye); simp (disch := first|exact zz|fail) only [go_sem, e2]; with_reducible rfl)))
    (repeat (first | refine yw ?_ | ((first | apply yd | apply ye); simp (disch := first|exact zz|fail) only [go_sem, e1]; with_reducible rfl)))
    exact ⟨hn', by simp [forget], x30.trans x31, fun i hi => hstep i hi (fun _ _ => hmem)⟩
  obtain rfl : n = l.length := by omega
  (repeat (first | refine yw ?_ | ((first | apply yd | apply ye); simp (disch := first|exact zz|fail) only [go_sem, n1m _ g30]; with_reducible rfl)))
  (refine aops_call_to (hasNode_c k30 (by omega)) ?_)
  by_cases hn0 : ∃ i, i < l.length ∧ (l.getD i (0, 0)).1 = f0
  rotate_left 1
  · (repeat (first | refine yw ?_ | ((first | apply yd | apply ye); simp (disch := first|exact zz|fail) only [go_sem, dec_f hn0]; with_reducible rfl)))
    refine cond_t rfl ?_
    (refine yg ?_)
    exact fin_1 rfl
  (repeat (first | refine yw ?_ | ((first | apply yd | apply ye); simp (disch := first|exact zz|fail) only [go_sem, dec_t hn0, n1m _ g30]; with_reducible rfl)))
  (refine aops_call_to (hasNode_c k30 (by omega)) ?_)
  by_cases hn1 : ∃ i, i < l.length ∧ (l.getD i (0, 0)).1 = z0
  rotate_left 1
  · (repeat (first | refine yw ?_ | ((first | apply yd | apply ye); simp (disch := first|exact zz|fail) only [go_sem, dec_f hn1]; with_reducible rfl)))
    refine cond_t rfl ?_
    (refine yg ?_)
    exact fin_1 rfl
  obtain ⟨i0, hi0, p0⟩ := hn0
  obtain ⟨i1, hi1, p1⟩ := hn1
  have hfin := few_true hMe hrate hk h2M hi0 hi1 (by rw [p0, e00]) (by rw [p1, e01]) (fun i hi ha hb => by
    rw [e00] at ha
    rw [e01] at hb
    obtain ⟨j, hj, ej⟩ := List.getElem_of_mem (hat i hi ha hb)
    refine ⟨j, by omega, ?_⟩
    rw [hMp j (by omega), ← ej, List.getD_eq_getElem?_getD, List.getElem?_eq_getElem hj]; rfl) hmin
  rw [e00, e01] at hfin
  have hrf30 := (hrf.ext xx).ext x30
  (repeat (first | refine yw ?_ | ((first | apply yd | apply ye); simp (disch := first|exact zz|fail) only [go_sem, dec_t (show ∃ i, i < l.length ∧ (l.getD i (0, 0)).1 = z0 from ⟨i1, hi1, p1⟩)]; with_reducible rfl)))
  refine cond_f rfl ?_
  (repeat (first | refine yw ?_ | ((first | apply yd | apply ye); simp (disch := first|exact zz|fail) only [go_sem, hrf30.len, hrf30.idx, hrf30.load, load_at (x30.cell c19'), dec_t (show ((lf.length : Nat) : Int) ≤ ((cntTo l f0 z0 l.length : Nat) : Int) by omega)]; with_reducible rfl)))
  exact fin_1 rfl
end Go.Lq

namespace Go.Lq
open Go Go.ChangeShapes Go.WideShapes Go.ChangeAt Go.RowKit
open Go.Proofs

set_option maxRecDepth 100000 in
theorem lifted5 (os : Os) (started : os.Started) (X : Type) (enc : TypeId × Value → X) :
    ReturnsInHanded {} Try.checked os 5 .any (Yteimgikhanhgiaa.Rows.topSpeedEnclosesSpec.pre6 enc Try.prog Try.f5 [] false) (Yteimgikhanhgiaa.Rows.topSpeedEnclosesSpec.post enc Try.prog Try.f5 false true false false) := by
  refine returnsInHanded_of_plain_shaped (C := Try.checked) own_knob started (by kernel_rfl) Try.func5
    (ChangeSpec.witness6 (enc := enc) (C := Try.checked) false ⟨#[], #[.agg #[.slice none 0 0, .int .i64 0, .int .i64 0, .int .i64 0, .int .i64 0], .slice none 0 0, .int .i64 0], []⟩ 12 (by kernel_rfl) (by kernel_rfl) (by kernel_rfl) (by kernel_rfl)) ?_
  intro W base args ds gs before hsh hval hW
  have hWw := hW
  obtain ⟨p, q, hA, _⟩ := hW
  refine (calls_of_law (d := 20) (of_shaped hsh) globs glob_at hA (fun j t v h1 h2 => hval j t v (by simpa using h1) (by simpa using h2)) (by kernel_rfl) fun H avs hx h => ?_).mono fun e W' ⟨he, hB⟩ => ?_
  · exact law5 (by rw [show Try.f5.params = #[58, 59, 3] from Try.params5] at h; exact h)
  · subst he
    exact ⟨_, rfl, law_post (bt := 4) laid_out rfl Try.underlying4 (by kernel_rfl) (by kernel_rfl) hWw (fun ds hd => by
      rw [show Try.f5.params = #[58, 59, 3] from Try.params5] at hd
      match ds, hd with
      | [a, b, c], _ => rfl) hB⟩
theorem unf5 : Try.prog.unfollowed 5 = true := by kernel_rfl
theorem rec5 : Try.prog.recurses 5 = true := by kernel_rfl
theorem named5 : Try.prog.varsNamed 5 = Yteimgikhanhgiaa.Rows.topSpeedEnclosesRow.named := by kernel_rfl
theorem facts5 : joinedFacts Try.prog 5 Try.f5 Yteimgikhanhgiaa.Rows.topSpeedEnclosesSpec Yteimgikhanhgiaa.Rows.topSpeedEnclosesRow = true := by
  unfold joinedFacts
  rw [may_enter, stops_heard, maps_rowed, laid_out, lifts_final, make_is, unf5, rec5, named5]
  kernel_rfl
theorem holds5 : Yteimgikhanhgiaa.Rows.TopSpeedEnclosesSaid :=
  OpenClaim.holds_of_wide 5 Try.f5 rfl rfl rfl rfl rfl rfl rfl ⟨rfl, rfl, rfl, rfl, rfl⟩ rfl rfl rfl rfl rfl (by kernel_rfl) Try.func5 facts5
    (of_decide_eq_true (by kernel_rfl)) (by unfold Func.isWrapper; first | (rw [if_pos (by decide +kernel)]; kernel_rfl) | (rw [if_neg (by decide +kernel)]; exact ⟨rfl, rfl⟩))
    (fun os started H enc _ => lifted5 os started H enc)
end Go.Lq
namespace Go.Proofs.Yteimgikhanhgiaa
open Go Go.Lq
theorem topSpeedEncloses_proved : Rows.TopSpeedEnclosesSaid := holds5
end Go.Proofs.Yteimgikhanhgiaa
