/- Towards SpeedStrings of seat YtejkpmemicpheaaGreatDoor: it returns true for every input. Made out of the proof's own texts, merged. -/
import Derived.Test.YtejkpmemicpheaaGreatDoorV31
set_option linter.unusedSimpArgs false
set_option linter.unnecessarySimpa false
set_option linter.unusedVariables false
set_option linter.unusedSectionVars false
set_option maxRecDepth 100000
namespace Go.Lq
open Go
open Go.Proofs

def pieceV (p : (Int × Int) × (Int × Int)) : Value := .agg ⟨[.int .i64 p.1.1, .int .i64 p.1.2, .int .i64 p.2.1, .int .i64 p.2.2]⟩
def pieceC (p : (Int × Int) × (Int × Int)) : List Value := [.int .i64 p.1.1, .int .i64 p.1.2, .int .i64 p.2.1, .int .i64 p.2.2]
def piecesI (l : List (Int × Int)) (i : Nat) : Nat → List (List Value)
  | 0 => []
  | k + 1 => [.int .i64 i, pieceV (pieceOf l i)] :: piecesI l (i + 1) k
theorem box_piece {p : (Int × Int) × (Int × Int)} {H : AHeap} : boxR (pieceV p) H = some (.pointer (some ⟨H.length, 0, none⟩), H ++ [.cells true 0 (pieceC p)]) := box_agg rfl
theorem load_piece {G : AHeap} {id : Nat} {p : (Int × Int) × (Int × Int)} (h : G[id]? = some (.cells true 0 (pieceC p))) : loadNR 4 (.pointer (some ⟨id, 0, none⟩)) G = some (pieceV p, G) := loadN_at h (by simp [pieceC])
theorem store_new4 {H : AHeap} {p : (Int × Int) × (Int × Int)} {vs : List Value} (hl : vs.length = 4) : storeR 4 (.pointer (some ⟨H.length, 0, none⟩)) (pieceV p) (H ++ [.cells true 0 vs]) = some (undef, H ++ [.cells true 0 (pieceC p)]) := store_newN rfl (by rw [hl]; rfl) rfl
theorem store_at4 {H : AHeap} {id : Nat} {p q : (Int × Int) × (Int × Int)} (h : H[id]? = some (.cells true 0 (pieceC q))) : storeR 4 (.pointer (some ⟨id, 0, none⟩)) (pieceV p) H = some (undef, H.set id (.cells true 0 (pieceC p))) := by
  have e1 : (pieceV p).cells = ⟨pieceC p⟩ := rfl
  have e2 : (pieceC p).all isAtom = true := rfl
  simp only [storeR, e1, List.size_toArray, storeAt, h, e2]
  rfl
theorem piece_build {a b : Int × Int} : fillA [.int .i64 0, .int .i64 0, .int .i64 0, .int .i64 0] [(0, 2, .agg ⟨[.int .i64 a.1, .int .i64 a.2]⟩), (2, 2, .agg ⟨[.int .i64 b.1, .int .i64 b.2]⟩)] = some [.int .i64 a.1, .int .i64 a.2, .int .i64 b.1, .int .i64 b.2] := rfl
theorem fin_ll {c : RCode} {n a b m : Nat} {R : Value → AHeap → Prop} {e : Env} {H : AHeap} {u w : Value} (h1 : loadNR m (e.getD a undef) H = some (u, H)) (h2 : loadR (e.getD b undef) H = some (w, H)) (h : R (.tuple #[u, w]) H) :
    Fin ⟨c, n, [.loadN m a, .load b]⟩ R .ret e H := by
  refine ⟨.inr rfl, _, ?_, h⟩
  unfold loadNR at h1
  unfold loadR at h2
  split at h1
  · rename_i id off hp
    simp only [Option.map_eq_some_iff, Prod.mk.injEq, and_true] at h1
    obtain ⟨us, h3, rfl⟩ := h1
    split at h2
    · rename_i id' off' hp'
      simp only [Option.map_eq_some_iff, Prod.mk.injEq, and_true] at h2
      obtain ⟨us', h4, rfl⟩ := h2
      simp only [resultA, List.mapM_cons, resA, hp, h3, hp', h4, Option.map_some, List.mapM_nil]
      rfl
    · cases h2
  · cases h1

section
variable {H : AHeap}
theorem positions_c {p : (Int × Int) × (Int × Int)} (h : -1000000000000000 ≤ p.2.1 - p.1.1 ∧ p.2.1 - p.1.1 ≤ 1000000000000000) : ACall Go.Proofs.Tryz.prog 45 [pieceV p] H fun v H' => v = .int .i64 (p.2.1 - p.1.1) ∧ H' = H := by
  refine ACall.drop (.int _ _) ?_
  (refine a45 ?_; simp only [n45, List.replicate, yq, yr, yt, yu]; first | refine q1 ?_ | refine q2 ?_ | refine q6 ?_ | refine q7 ?_ | refine qh rfl ?_ | skip)
  have g0 : (H ++ [AObj.cells true 0 (pieceC p)])[H.length]? = some (.cells true 0 (pieceC p)) := at_new
  have xG : Ext H (H ++ [AObj.cells true 0 (pieceC p)]) := (Ext.refl H).app _
  (repeat (first | refine yw ?_ | ((first | apply yd | apply ye); simp (disch := first|exact zz|fail) only [go_sem, box_piece, load_at g0, pieceC]; with_reducible rfl)))
  exact fin_1 ⟨rfl, xG⟩
theorem times_c {p : (Int × Int) × (Int × Int)} (h : -1000000000000000 ≤ p.2.2 - p.1.2 ∧ p.2.2 - p.1.2 ≤ 1000000000000000) : ACall Go.Proofs.Tryz.prog 47 [pieceV p] H fun v H' => v = .int .i64 (p.2.2 - p.1.2) ∧ H' = H := by
  refine ACall.drop (.int _ _) ?_
  (refine a47 ?_; simp only [n47, List.replicate, yq, yr, yt, yu]; first | refine q1 ?_ | refine q2 ?_ | refine q6 ?_ | refine q7 ?_ | refine qh rfl ?_ | skip)
  have g0 : (H ++ [AObj.cells true 0 (pieceC p)])[H.length]? = some (.cells true 0 (pieceC p)) := at_new
  have xG : Ext H (H ++ [AObj.cells true 0 (pieceC p)]) := (Ext.refl H).app _
  (repeat (first | refine yw ?_ | ((first | apply yd | apply ye); simp (disch := first|exact zz|fail) only [go_sem, box_piece, load_at g0, pieceC]; with_reducible rfl)))
  exact fin_1 ⟨rfl, xG⟩
theorem pieces_c {l : List (Int × Int)} {v : Value} (hl : Pairs H l v) : ACall Go.Proofs.Tryz.prog 74 [.agg ⟨[v]⟩] H fun v1 H' =>
    v1 = .func (.func 93) #[] #[.pointer (some ⟨H.length, 0, none⟩)] ∧ H' = H ++ [.cells true 0 [v]] := by
  (refine a74 ?_; simp only [n74, List.replicate, yq, yr, yt, yu]; first | refine q1 ?_ | refine q2 ?_ | refine q6 ?_ | refine q7 ?_ | refine qh rfl ?_ | skip)
  (repeat (first | refine yw ?_ | ((first | apply yd | apply ye); simp (disch := first|exact zz|fail) only [go_sem, hl.box1]; with_reducible rfl)))
  refine fin_1 ⟨?_, rfl⟩
  simp [go_sem]
def PieceF (idt : Nat) (l : List (Int × Int)) (v : Value) (H : AHeap) : Prop := H[idt]? = some (.cells true 0 [v]) ∧ Pairs H l v
set_option maxHeartbeats 4000000 in
theorem pieces1_c {idt : Nat} {l : List (Int × Int)} {v : Value} (h2 : 1 ≤ l.length) (hb : l.length ≤ 1000) :
    GenA Go.Proofs.Tryz.prog 93 [] [.pointer (some ⟨idt, 0, none⟩)] (PieceF idt l v) (piecesI l 0 (l.length - 1)) := by
  intro lp I S H hF hround hI0
  show ACall _ _ [.func (.yield lp) #[] #[], .pointer (some ⟨idt, 0, none⟩)] _ _
  obtain ⟨f1, f2⟩ := hF _ _ hI0
  (refine a93 ?_; simp only [n93, List.replicate, yq, yr, yt, yu]; first | refine q1 ?_ | refine q2 ?_ | refine q6 ?_ | refine q7 ?_ | refine qh rfl ?_ | skip)
  obtain ⟨n, hn⟩ : ∃ n, l.length - 1 = n := ⟨_, rfl⟩
  have en : (l.length : Int) - 1 = (n : Int) := by omega
  rw [hn] at hI0
  (repeat (first | refine yw ?_ | ((first | apply yd | apply ye); simp (disch := first|exact zz|fail) only [go_sem, f2.len, f2.idx, f2.load, load_at f1, en]; with_reducible rfl)))
  refine awp_loop_n [true, true, false, false, false, false, false, true, true, false, false, false, false, false, false, false, false, false, false, false, false, false, false, false, false, false, false, false] n (fun i e H' => e = [.func (.yield lp) #[] #[], .pointer (some ⟨idt, 0, none⟩), junk, junk, junk, junk, junk, .int .i64 n, .int .i64 i, junk, junk, junk, junk, junk, junk, junk, junk, junk, junk, junk, junk, junk, junk, junk, junk, junk, junk, junk] ∧ I (piecesI l i (n - i)) H') ?_ ?_
  · exact ⟨by simp [forget], hI0⟩
  rintro i e H1 hi ⟨rfl, hI⟩
  obtain ⟨f1', f2'⟩ := hF _ _ hI
  (refine yg ?_)
  refine cond_p rfl (fun hlt => ?_) (fun hge => ?_)
  rotate_left 1
  · obtain rfl : i = n := by omega
    rw [Nat.sub_self] at hI
    (refine yg ?_)
    exact ⟨.inl rfl, undef, rfl, .inl hI⟩
  have hi' : i < n := by omega
  obtain ⟨k, hk⟩ : ∃ k, k = n - (i + 1) := ⟨_, rfl⟩
  rw [show n - i = k + 1 by omega] at hI
  have e1 : (i : Int) + 1 = ((i + 1 : Nat) : Int) := by omega
  (repeat (first | refine yw ?_ | ((first | apply yd | apply ye); simp (disch := first|exact zz|fail) only [go_sem, f2'.len, f2'.idx, f2'.load, load_at f1', e1, piece_build]; with_reducible rfl)))
  refine adraw_callV ?_
  refine aops_call ((hround _ _ _ hI).mono fun v1 H3 h => ?_)
  rcases h with ⟨rfl, hI3⟩ | ⟨rfl, hS⟩
  · (refine yg ?_)
    refine cond_f rfl ?_
    (refine yg ?_)
    exact ⟨by omega, by simp [forget], by rw [← hk]; exact hI3⟩
  · (refine yg ?_)
    refine cond_t rfl ?_
    (refine yg ?_)
    exact ⟨.inr rfl, undef, rfl, .inr hS⟩
end
end Go.Lq

namespace Go.Lq
open Go
open Go.Proofs

def zeroP : (Int × Int) × (Int × Int) := ((0, 0), (0, 0))
def findR (o : Option Nat) (l : List (Int × Int)) : ((Int × Int) × (Int × Int)) × Bool := match o with | some i => (pieceOf l i, true) | none => (zeroP, false)
theorem closed_pieceB (p : (Int × Int) × (Int × Int)) (b : Bool) : Closed (.tuple #[pieceV p, .bool b]) := .tuple _ (closed_list (l := [pieceV p, .bool b]) fun v hv => by
  simp only [List.mem_cons, List.not_mem_nil, or_false] at hv
  rcases hv with rfl | rfl
  · exact .agg _ (closed_list (l := pieceC p) fun v hv => by
      simp only [pieceC, List.mem_cons, List.not_mem_nil, or_false] at hv
      rcases hv with rfl | rfl | rfl | rfl <;> exact .int _ _)
  · exact .bool _)

theorem load1 {H : AHeap} {id : Nat} {w : Value} (h : H[id]? = some (.cells true 0 [w])) : loadR (.pointer (some ⟨id, 0, none⟩)) H = some (w, H) := by rw [load_at h]; rfl
theorem findP_succ {p : (Int × Int) × (Int × Int) → Bool} {l : List (Int × Int)} {i k : Nat} : findP p l i (k + 1) = if p (pieceOf l i) = true then some i else findP p l (i + 1) k := rfl
section
variable {H : AHeap}
set_option maxHeartbeats 4000000 in
theorem find_c {l : List (Int × Int)} {v : Value} {g : FuncId} {ad : Addr} {p : (Int × Int) × (Int × Int) → Bool} (hl : Pairs H l v) (h2 : 1 ≤ l.length) (hb : l.length ≤ 1000)
    (hq : ∀ J, Ext H J → ∀ i, i < l.length - 1 → AInvoke Go.Proofs.Tryz.prog (.func (.func g) #[] #[.pointer (some ad)]) [pieceV (pieceOf l i)] J fun w H' => w = .bool (p (pieceOf l i)) ∧ H' = J) :
    ACall Go.Proofs.Tryz.prog 41 [.agg ⟨[v]⟩, .func (.func g) #[] #[.pointer (some ad)]] H fun w H' => w = .tuple #[pieceV (findR (findP p l 0 (l.length - 1)) l).1, .bool (findR (findP p l 0 (l.length - 1)) l).2] ∧ H' = H := by
  refine ACall.drop (closed_pieceB _ _) ?_
  obtain ⟨n, hn⟩ : ∃ n, l.length - 1 = n := ⟨_, rfl⟩
  rw [hn] at hq ⊢
  (refine a41 ?_; simp only [n41, List.replicate, yq, yr, yt, yu]; first | refine q1 ?_ | refine q2 ?_ | refine q6 ?_ | refine q7 ?_ | refine qh rfl ?_ | skip)
  obtain ⟨fv, hfv⟩ : ∃ fv, fv = Value.func (.func g) #[] #[.pointer (some ad)] := ⟨_, rfl⟩
  have hbf : ∀ J : AHeap, boxR fv J = some (.pointer (some ⟨J.length, 0, none⟩), J ++ [.cells true 0 [fv]]) := fun J => by rw [hfv]; rfl
  rw [← hfv] at hq ⊢
  obtain ⟨G, hG⟩ : ∃ G, G = H ++ [AObj.cells true 0 [v]] ++ [AObj.cells true 0 [fv]] ++ [AObj.cells true 0 [.int .i64 0, .int .i64 0, .int .i64 0, .int .i64 0]] ++ [AObj.cells true 0 [.bool false]] := ⟨_, rfl⟩
  have g0 : G[H.length]? = some (.cells true 0 [v]) := by rw [hG]; simp
  have g1 : G[H.length + 1]? = some (.cells true 0 [fv]) := by rw [hG]; simp
  have g2 : G[H.length + 2]? = some (.cells true 0 (pieceC zeroP)) := by rw [hG]; simp [pieceC, zeroP]
  have g3 : G[H.length + 3]? = some (.cells true 0 [.bool false]) := by rw [hG]; simp
  have xG : Ext H G := by rw [hG]; exact ((((Ext.refl H).app _).app _).app _).app _
  have lG : G.length = H.length + 4 := by rw [hG]; simp
  (repeat (first | refine yv ?_ | (apply yd; simp (disch := first|exact zz|fail) only [go_sem, hl.box1, hbf]; with_reducible rfl)))
  (simp only [List.length_append, List.length_cons, List.length_nil, Nat.zero_add, Nat.add_assoc, Nat.reduceAdd])
  rw [← hG]
  clear hG
  have hlg := hl.ext xG
  (repeat (first | refine yw ?_ | ((first | apply yd | apply ye); simp (disch := first|exact zz|fail) only [go_sem, n1_at g0]; with_reducible rfl)))
  refine aops_call ((pieces_c hlg).mono fun v1 G3 ⟨e1, e2⟩ => ?_)
  subst e1
  have x3 : Ext G G3 := ⟨_, e2⟩
  have xH3 := xG.trans x3
  have k4 : G3[G.length]? = some (.cells true 0 [v]) := by rw [e2]; exact at_new
  have k1 := x3.cell g1
  have k2 := x3.cell g2
  have k3 := x3.cell g3
  have l3 : G3.length = G.length + 1 := by rw [e2]; simp
  clear e2
  refine yx ?_
  refine awp_rangeA mo rfl (fun l h => by cases h) (pieces1_c (idt := G.length) (l := l) (v := v) h2 hb)
    (fun rest H' => ∃ i, rest = piecesI l i (n - i) ∧ i ≤ n ∧ findP p l 0 n = findP p l i (n - i) ∧ Ext G3 H')
    (fun x H' => x = .ret ∧ ∃ i, findP p l 0 n = some i ∧ H'[H.length + 2]? = some (.cells true 0 (pieceC (pieceOf l i))) ∧ H'[H.length + 3]? = some (.cells true 0 [.bool true]) ∧ Ext H H') ?_ ?_ ?_ ?_ ?_ ?_ ?_
  · rintro rest H' c' ⟨i, h1, h2, h3, h4⟩
    exact ⟨i, h1, h2, h3, h4.set (Nat.le_refl _) _⟩
  · rintro x H' c' ⟨h1, i, h2, h3, h4, h5⟩
    refine ⟨h1, i, h2, ?_, ?_, h5.set (by omega) _⟩
    · rw [List.getElem?_set_ne (by omega)]; exact h3
    · rw [List.getElem?_set_ne (by omega)]; exact h4
  · rintro rest H' ⟨i, h1, h2, h3, h4⟩
    exact ⟨h4.cell k4, hl.ext (xH3.trans h4)⟩
  · intro N
    exact ⟨0, by rw [hn]; rfl, Nat.zero_le _, rfl, (Ext.refl _).app N⟩
  · rintro a rest H1 ⟨i, h1, hin, h3, h4⟩ hlt
    obtain ⟨k, hk⟩ : ∃ k, n - i = k := ⟨_, rfl⟩
    rw [hk] at h1 h3
    match k, h1 with
    | k + 1, h1 =>
    obtain ⟨rfl, rfl⟩ := List.cons.inj h1
    have hi : i < n := by omega
    have hki : k = n - (i + 1) := by omega
    refine ⟨rfl, fun R Rb _ hR => ?_⟩
    simp only [assignParams, List.zip_cons_cons, List.zip_nil_left, List.foldl_cons, List.foldl_nil]
    have hst : storeR 4 (.pointer (some ⟨H1.length, 0, none⟩)) (pieceV (pieceOf l i)) (H1 ++ [.cells true 0 [.int .i64 0, .int .i64 0, .int .i64 0, .int .i64 0]]) = some (undef, H1 ++ [.cells true 0 (pieceC (pieceOf l i))]) := store_new4 rfl
    (repeat (first | refine yw ?_ | ((first | apply yd | apply ye); simp (disch := first|exact zz|fail) only [go_sem, hst]; with_reducible rfl)))
    refine ⟨rfl, at_app hR, ?_⟩
    have hlR := (List.getElem?_eq_some_iff.1 hR).1
    have hx5 : Ext G3 ((H1 ++ [AObj.cells true 0 (pieceC (pieceOf l i))]).set G3.length Rb) := (h4.app _).set (Nat.le_refl _) _
    have hRb : ((H1 ++ [AObj.cells true 0 (pieceC (pieceOf l i))]).set G3.length Rb)[G3.length]? = some Rb := get_set_self (at_app hR)
    have b7 : ((H1 ++ [AObj.cells true 0 (pieceC (pieceOf l i))]).set G3.length Rb)[H1.length]? = some (.cells true 0 (pieceC (pieceOf l i))) := by
      rw [List.getElem?_set_ne (by omega)]; exact at_new
    generalize ((H1 ++ [AObj.cells true 0 (pieceC (pieceOf l i))]).set G3.length Rb : AHeap) = Hb at hx5 hRb b7
    have b2 := hx5.cell k2
    have b3 := hx5.cell k3
    have b3' : (Hb.set (H.length + 2) (.cells true 0 (pieceC (pieceOf l i))))[H.length + 3]? = some (.cells true 0 [.bool false]) := by rw [List.getElem?_set_ne (by omega)]; exact b3
    (repeat (first | refine yw ?_ | ((first | apply yd | apply ye); simp (disch := first|exact zz|fail) only [go_sem, load_at (hx5.cell k1), load_piece b7]; with_reducible rfl)))
    refine aops_call_to (hq Hb (xH3.trans hx5) i hi) ?_
    by_cases hp : p (pieceOf l i) = true
    · rw [hp]
      (refine yg ?_)
      refine cond_t rfl ?_
      (repeat (first | refine yw ?_ | ((first | apply yd | apply ye); simp (disch := first|exact zz|fail) only [go_sem, load_piece b7, store_at4 b2, store_b1 b3' (y := .bool true) rfl rfl]; with_reducible rfl)))
      refine rounded_r ?_ ⟨rfl, i, ?_, ?_, get_set_self b3', ((xH3.trans hx5).set (by omega) _).set (by omega) _⟩
      · rw [List.getElem?_set_ne (by omega), List.getElem?_set_ne (by omega)]; exact hRb
      · rw [h3, findP_succ, if_pos hp]
      · rw [List.getElem?_set_ne (by omega)]; exact get_set_self b2
    · have hpf : p (pieceOf l i) = false := by simpa using hp
      rw [hpf]
      (refine yg ?_)
      refine cond_f rfl ?_
      (refine yg ?_)
      refine rounded_n hRb ⟨i + 1, by rw [← hki], by omega, ?_, hx5⟩
      rw [h3, ← hki, findP_succ, if_neg hp]
  · rintro H' ⟨i, h1, hin, h3, h4⟩
    obtain ⟨k, hk⟩ : ∃ k, n - i = k := ⟨_, rfl⟩
    rw [hk] at h1 h3
    match k, h1 with
    | 0, _ =>
    have b2 := h4.cell k2
    have b3 := h4.cell k3
    have b3' : (H'.set (H.length + 2) (.cells true 0 (pieceC zeroP)))[H.length + 3]? = some (.cells true 0 [.bool false]) := by rw [List.getElem?_set_ne (by omega)]; exact b3
    have hs4 : storeR 4 (.pointer (some ⟨H.length + 2, 0, none⟩)) (.agg ⟨[.int .i64 0, .int .i64 0, .int .i64 0, .int .i64 0]⟩) H' = some (undef, H'.set (H.length + 2) (.cells true 0 (pieceC zeroP))) := store_at4 (p := zeroP) b2
    (repeat (first | refine yw ?_ | ((first | apply yd | apply ye); simp (disch := first|exact zz|fail) only [go_sem, fill_none, hs4, store_b1 b3' (y := .bool false) rfl rfl]; with_reducible rfl)))
    have e0 : findR (findP p l 0 n) l = (zeroP, false) := by rw [h3]; rfl
    refine fin_ll (u := pieceV zeroP) (w := .bool false) (load_piece (by rw [List.getElem?_set_ne (by omega)]; exact get_set_self b2)) (load1 (get_set_self b3')) ⟨by rw [e0], ((xH3.trans h4).set (by omega) _).set (by omega) _⟩
  · rintro x H' hx ⟨rfl, i, h1, h2, h3, h4⟩
    have e0 : findR (findP p l 0 n) l = (pieceOf l i, true) := by rw [h1]; rfl
    (refine yg ?_)
    refine fin_ll (u := pieceV (pieceOf l i)) (w := .bool true) (load_piece h2) (load1 h3) ⟨by rw [e0], h4⟩
end
end Go.Lq

namespace Go.Lq

structure Digit (y1 y0 u u1 : Int) : Prop where
  b0 : 0 ≤ y0 ∧ y0 < 4294967296
  b1 : 2147483648 ≤ y1 ∧ y1 < 4294967296
  bu : 0 ≤ u ∧ u < y1 * 4294967296 + y0
  bu1 : 0 ≤ u1 ∧ u1 < 4294967296
def quoD (y1 y0 u u1 : Int) : Int := (u * 4294967296 + u1) / (y1 * 4294967296 + y0)
section
variable {y1 y0 u u1 q r : Int}
theorem Digit.vpos (h : Digit y1 y0 u u1) : 0 < y1 * 4294967296 + y0 := by have := h.b0; have := h.b1; omega
theorem Digit.quo_nn (h : Digit y1 y0 u u1) : 0 ≤ quoD y1 y0 u u1 := Int.ediv_nonneg (by have := h.bu; have := h.bu1; omega) (by have := h.vpos; omega)
theorem Digit.quo_lt (h : Digit y1 y0 u u1) : quoD y1 y0 u u1 < 4294967296 := by
  refine Int.ediv_lt_of_lt_mul h.vpos ?_
  have h1 := h.bu
  have h2 := h.bu1
  generalize y1 * 4294967296 + y0 = v at *
  omega
theorem Digit.le_of (h : Digit y1 y0 u u1) (hm : q * (y1 * 4294967296 + y0) ≤ u * 4294967296 + u1) : q ≤ quoD y1 y0 u u1 := Int.le_ediv_of_mul_le h.vpos hm
theorem Digit.lt_of (h : Digit y1 y0 u u1) (hm : u * 4294967296 + u1 < q * (y1 * 4294967296 + y0)) : quoD y1 y0 u u1 < q := Int.ediv_lt_of_lt_mul h.vpos hm
theorem Digit.quo_mul (h : Digit y1 y0 u u1) : quoD y1 y0 u u1 * (y1 * 4294967296 + y0) ≤ u * 4294967296 + u1 := Int.ediv_mul_le _ (by have := h.vpos; omega)
theorem dist_qv (q y1 y0 : Int) : q * (y1 * 4294967296 + y0) = q * y1 * 4294967296 + q * y0 := by rw [Int.mul_add, Int.mul_assoc]
theorem Digit.first (h : Digit y1 y0 u u1) : quoD y1 y0 u u1 ≤ u / y1 := by
  have h1 := h.quo_mul
  have h2 := h.quo_nn
  have hy := h.b0
  have hy1 := h.b1
  have hu1 := h.bu1
  rw [dist_qv] at h1
  refine Int.le_ediv_of_mul_le (by omega) ?_
  have h3 := Int.mul_nonneg h2 hy.1
  generalize quoD y1 y0 u u1 * y1 = a at *
  generalize quoD y1 y0 u u1 * y0 = b at *
  omega
theorem Digit.step (h : Digit y1 y0 u u1) (hu : u = q * y1 + r) (hc : 4294967296 ≤ q ∨ 4294967296 * r + u1 < q * y0) : quoD y1 y0 u u1 ≤ q - 1 := by
  rcases hc with hc | hc
  · have := h.quo_lt; omega
  · have : quoD y1 y0 u u1 < q := h.lt_of (by rw [dist_qv]; omega)
    omega
theorem Digit.done (h : Digit y1 y0 u u1) (hu : u = q * y1 + r) (hq : quoD y1 y0 u u1 ≤ q) (hc : q * y0 ≤ 4294967296 * r + u1) : q = quoD y1 y0 u u1 := by
  have := h.le_of (q := q) (by rw [dist_qv]; omega)
  omega
theorem Digit.done2 (h : Digit y1 y0 u u1) (hu : u = q * y1 + r) (hq : quoD y1 y0 u u1 ≤ q) (hr : 4294967296 ≤ r) : q = quoD y1 y0 u u1 := by
  have hy := h.b0
  have hy1 := h.b1
  have huu := h.bu
  have hu1 := h.bu1
  have h0 := h.quo_nn
  have hlt : q < 4294967296 := by
    rcases Int.lt_or_le q 4294967296 with h | h
    · exact h
    · have := Int.mul_le_mul_of_nonneg_right h (show 0 ≤ y1 by omega)
      omega
  refine h.done hu hq ?_
  have h1 := Int.mul_le_mul (show q ≤ 4294967295 by omega) (show y0 ≤ 4294967295 by omega) hy.1 (by omega)
  omega
theorem Digit.bound (h : Digit y1 y0 u u1) (hu : u = q * y1 + r) (hq : quoD y1 y0 u u1 ≤ q) (hr : 0 ≤ r) : 0 ≤ q ∧ q ≤ 8589934592 ∧ 0 ≤ q * y1 ∧ q * y1 ≤ u := by
  have hy := h.b0
  have hy1 := h.b1
  have huu := h.bu
  have h0 := h.quo_nn
  have h1 := Int.mul_nonneg (show 0 ≤ q by omega) (show 0 ≤ y1 by omega)
  refine ⟨by omega, ?_, h1, by omega⟩
  rcases Int.lt_or_le 8589934592 q with h | h
  · have := Int.mul_le_mul (show 8589934593 ≤ q by omega) hy1.1 (by omega) (by omega)
    omega
  · exact h
theorem Digit.left (h : Digit y1 y0 u u1) (hq : q = quoD y1 y0 u u1) : u * 4294967296 + u1 - q * (y1 * 4294967296 + y0) = (u * 4294967296 + u1) % (y1 * 4294967296 + y0) := by
  subst hq
  have := Int.mul_ediv_add_emod (u * 4294967296 + u1) (y1 * 4294967296 + y0)
  rw [Int.mul_comm] at this
  unfold quoD
  omega
end
theorem div_two {U y s v hi lo un un1 un0 q1 q0 r1 r0 : Int} (hs : 0 < s) (hy : 0 < y) (hv : v = y * s) (hU : U = hi * 18446744073709551616 + lo) (hUs : U * s = un * 18446744073709551616 + un1 * 4294967296 + un0)
    (h1 : un * 4294967296 + un1 = q1 * v + r1) (h2 : r1 * 4294967296 + un0 = q0 * v + r0) (hr : 0 ≤ r0 ∧ r0 < v) : q1 * 4294967296 + q0 = U / y ∧ r0 / s = U % y := by
  have e : U * s = (q1 * 4294967296 + q0) * v + r0 := by
    rw [hUs, Int.add_mul]
    have : q1 * 4294967296 * v = q1 * v * 4294967296 := by ac_rfl
    omega
  have hvp : 0 < v := by rw [hv]; exact Int.mul_pos hy hs
  have k1 : U * s / v = q1 * 4294967296 + q0 := by
    rw [e, Int.add_comm, Int.add_mul_ediv_right _ _ (by omega), Int.ediv_eq_zero_of_lt hr.1 hr.2, Int.zero_add]
  have k2 : U * s / v = U / y := by rw [hv]; exact Int.mul_ediv_mul_of_pos_left U y hs
  have k3 : q1 * 4294967296 + q0 = U / y := by rw [← k1, k2]
  refine ⟨k3, ?_⟩
  have k4 := Int.mul_ediv_add_emod U y
  have k5 : r0 = U % y * s := by
    have : U * s = (U / y) * v + U % y * s := by
      rw [hv]
      have a1 : U / y * (y * s) = y * (U / y) * s := by ac_rfl
      rw [a1, ← Int.add_mul, k4]
    rw [e, k3] at this
    omega
  rw [k5]
  exact Int.mul_ediv_cancel _ (by omega)
end Go.Lq

namespace Go.Lq
open Go
open Go.Proofs

def len8 (n : Nat) : Nat := if n = 0 then 0 else if n < 2 then 1 else if n < 4 then 2 else if n < 8 then 3 else if n < 16 then 4 else if n < 32 then 5 else if n < 64 then 6 else if n < 128 then 7 else 8
def len8tab : ByteArray := ⟨#[0, 1, 2, 2, 3, 3, 3, 3, 4, 4, 4, 4, 4, 4, 4, 4, 5, 5, 5, 5, 5, 5, 5, 5, 5, 5, 5, 5, 5, 5, 5, 5, 6, 6, 6, 6, 6, 6, 6, 6, 6, 6, 6, 6, 6, 6, 6, 6, 6, 6, 6, 6, 6, 6, 6, 6, 6, 6, 6, 6, 6, 6, 6, 6, 7, 7, 7, 7, 7, 7, 7, 7, 7, 7, 7, 7, 7, 7, 7, 7, 7, 7, 7, 7, 7, 7, 7, 7, 7, 7, 7, 7, 7, 7, 7, 7, 7, 7, 7, 7, 7, 7, 7, 7, 7, 7, 7, 7, 7, 7, 7, 7, 7, 7, 7, 7, 7, 7, 7, 7, 7, 7, 7, 7, 7, 7, 7, 7, 8, 8, 8, 8, 8, 8, 8, 8, 8, 8, 8, 8, 8, 8, 8, 8, 8, 8, 8, 8, 8, 8, 8, 8, 8, 8, 8, 8, 8, 8, 8, 8, 8, 8, 8, 8, 8, 8, 8, 8, 8, 8, 8, 8, 8, 8, 8, 8, 8, 8, 8, 8, 8, 8, 8, 8, 8, 8, 8, 8, 8, 8, 8, 8, 8, 8, 8, 8, 8, 8, 8, 8, 8, 8, 8, 8, 8, 8, 8, 8, 8, 8, 8, 8, 8, 8, 8, 8, 8, 8, 8, 8, 8, 8, 8, 8, 8, 8, 8, 8, 8, 8, 8, 8, 8, 8, 8, 8, 8, 8, 8, 8, 8, 8, 8, 8, 8, 8, 8, 8, 8, 8, 8, 8, 8, 8, 8, 8]⟩
theorem tab8_at : ∀ k : _root_.Fin 256, (len8tab[k.val]?).map UInt8.toNat = some (len8 k.val) := by decide +kernel
set_option maxRecDepth 10000 in
theorem tab8 {H : AHeap} {n : Nat} (h : n < 256) : idxSR (.string ⟨#[0, 1, 2, 2, 3, 3, 3, 3, 4, 4, 4, 4, 4, 4, 4, 4, 5, 5, 5, 5, 5, 5, 5, 5, 5, 5, 5, 5, 5, 5, 5, 5, 6, 6, 6, 6, 6, 6, 6, 6, 6, 6, 6, 6, 6, 6, 6, 6, 6, 6, 6, 6, 6, 6, 6, 6, 6, 6, 6, 6, 6, 6, 6, 6, 7, 7, 7, 7, 7, 7, 7, 7, 7, 7, 7, 7, 7, 7, 7, 7, 7, 7, 7, 7, 7, 7, 7, 7, 7, 7, 7, 7, 7, 7, 7, 7, 7, 7, 7, 7, 7, 7, 7, 7, 7, 7, 7, 7, 7, 7, 7, 7, 7, 7, 7, 7, 7, 7, 7, 7, 7, 7, 7, 7, 7, 7, 7, 7, 8, 8, 8, 8, 8, 8, 8, 8, 8, 8, 8, 8, 8, 8, 8, 8, 8, 8, 8, 8, 8, 8, 8, 8, 8, 8, 8, 8, 8, 8, 8, 8, 8, 8, 8, 8, 8, 8, 8, 8, 8, 8, 8, 8, 8, 8, 8, 8, 8, 8, 8, 8, 8, 8, 8, 8, 8, 8, 8, 8, 8, 8, 8, 8, 8, 8, 8, 8, 8, 8, 8, 8, 8, 8, 8, 8, 8, 8, 8, 8, 8, 8, 8, 8, 8, 8, 8, 8, 8, 8, 8, 8, 8, 8, 8, 8, 8, 8, 8, 8, 8, 8, 8, 8, 8, 8, 8, 8, 8, 8, 8, 8, 8, 8, 8, 8, 8, 8, 8, 8, 8, 8, 8, 8, 8, 8, 8, 8]⟩) (.int .u8 (n : Int)) H = some (.int .u8 (len8 n : Nat), H) := by
  show idxSR (.string len8tab) _ _ = _
  obtain ⟨b, hb, he⟩ := Option.map_eq_some_iff.1 (tab8_at ⟨n, h⟩)
  dsimp only at hb he
  simp only [idxSR, idxStr, Int.toNat_natCast, hb, Option.map_some, he]
  rw [if_pos (by omega)]
  rfl
theorem len8_spec {n : Nat} (h0 : 0 < n) (h : n < 256) : 1 ≤ len8 n ∧ len8 n ≤ 8 ∧ 2 ^ (len8 n - 1) ≤ n ∧ n < 2 ^ len8 n := by
  unfold len8
  repeat' split
  all_goals first | (exfalso; omega) | (refine ⟨by omega, by omega, ?_, ?_⟩ <;> (simp; try omega))
theorem pow_split {x n k : Nat} (h1 : 1 ≤ k) (hl : 2 ^ (k - 1) ≤ x / 2 ^ n) (hu : x / 2 ^ n < 2 ^ k) : 2 ^ (n + k - 1) ≤ x ∧ x < 2 ^ (n + k) := by
  constructor
  · have := (Nat.le_div_iff_mul_le (Nat.pow_pos (by omega))).1 hl
    rwa [← Nat.pow_add, show k - 1 + n = n + k - 1 by omega] at this
  · have := (Nat.div_lt_iff_lt_mul (Nat.pow_pos (by omega))).1 hu
    rwa [← Nat.pow_add, show k + n = n + k by omega] at this

section
variable {H : AHeap}
theorem mul64_c {x y : Int} (hx : 0 ≤ x ∧ x < 18446744073709551616) (hy : 0 ≤ y ∧ y < 18446744073709551616) : ACall Go.Proofs.Tryz.prog 44 [.int .u64 x, .int .u64 y] H fun v H' =>
    v = .tuple #[.int .u64 (x * y / 18446744073709551616), .int .u64 (x * y % 18446744073709551616)] ∧ H' = H := by
  obtain ⟨x1, x0, ex1, ex0⟩ : ∃ x1 x0, x1 = x / 4294967296 ∧ x0 = x % 4294967296 := ⟨_, _, rfl, rfl⟩
  obtain ⟨y1, y0, ey1, ey0⟩ : ∃ y1 y0, y1 = y / 4294967296 ∧ y0 = y % 4294967296 := ⟨_, _, rfl, rfl⟩
  have hxx : x = x1 * 4294967296 + x0 := by omega
  have hyy : y = y1 * 4294967296 + y0 := by omega
  have m1 := mul_abs (x := x1) (y := y1) (a := 4294967295) (b := 4294967295) ⟨by omega, by omega⟩ ⟨by omega, by omega⟩
  have m2 := mul_abs (x := x1) (y := y0) (a := 4294967295) (b := 4294967295) ⟨by omega, by omega⟩ ⟨by omega, by omega⟩
  have m3 := mul_abs (x := x0) (y := y1) (a := 4294967295) (b := 4294967295) ⟨by omega, by omega⟩ ⟨by omega, by omega⟩
  have m4 := mul_abs (x := x0) (y := y0) (a := 4294967295) (b := 4294967295) ⟨by omega, by omega⟩ ⟨by omega, by omega⟩
  have n1 := Int.mul_nonneg (show 0 ≤ x1 by omega) (show 0 ≤ y1 by omega)
  have n2 := Int.mul_nonneg (show 0 ≤ x1 by omega) (show 0 ≤ y0 by omega)
  have n3 := Int.mul_nonneg (show 0 ≤ x0 by omega) (show 0 ≤ y1 by omega)
  have n4 := Int.mul_nonneg (show 0 ≤ x0 by omega) (show 0 ≤ y0 by omega)
  have hprod : x * y = x1 * y1 * 18446744073709551616 + x1 * y0 * 4294967296 + x0 * y1 * 4294967296 + x0 * y0 := by
    rw [hxx, hyy]
    simp only [Int.add_mul, Int.mul_add]
    have e1 : x1 * 4294967296 * (y1 * 4294967296) = x1 * y1 * 18446744073709551616 := by
      rw [show (18446744073709551616 : Int) = 4294967296 * 4294967296 by decide]; ac_rfl
    have e2 : x1 * 4294967296 * y0 = x1 * y0 * 4294967296 := by ac_rfl
    have e3 : x0 * (y1 * 4294967296) = x0 * y1 * 4294967296 := by ac_rfl
    omega
  (refine a44 ?_; simp only [n44, List.replicate, yq, yr, yt, yu]; first | refine q1 ?_ | refine q2 ?_ | refine q6 ?_ | refine q7 ?_ | refine qh rfl ?_ | skip)
  (repeat (first | refine yw ?_ | ((first | apply yd | apply ye); simp (disch := first|exact zz|fail) only [go_sem, ← ex1, ← ex0, ← ey1, ← ey0, wu_eq (x * y)]; with_reducible rfl)))
  refine fin_2 ⟨?_, rfl⟩
  show Value.tuple #[.int .u64 _, .int .u64 _] = _
  congr 3
  rw [hprod]
  congr 1
  omega
set_option maxRecDepth 10000 in
theorem len64_c {x : Int} (hx : 0 < x ∧ x < 18446744073709551616) : ACall Go.Proofs.Tryz.prog 94 [.int .u64 x] H fun v H' => H' = H ∧ ∃ n : Nat, v = .int .i64 n ∧ 1 ≤ n ∧ n ≤ 64 ∧ ((2 ^ (n - 1) : Nat) : Int) ≤ x ∧ x < ((2 ^ n : Nat) : Int) := by
  obtain ⟨xn, rfl⟩ : ∃ n : Nat, x = n := ⟨x.toNat, by omega⟩
  (refine a94 ?_; simp only [n94, List.replicate, yq, yr, yt, yu]; first | refine q1 ?_ | refine q2 ?_ | refine q6 ?_ | refine q7 ?_ | refine qh rfl ?_ | skip)
  (refine yg ?_)
  refine awp_mid [true, false, true, false, false, false, false, false, false, false, false, false, false, false, false, false, false, false, false, false, false, false, false, false, false] (fun e H' => H' = H ∧ ∃ n : Nat, n ≤ 32 ∧ 0 < xn / 2 ^ n ∧ xn / 2 ^ n < 4294967296 ∧ e = [.int .u64 ((xn / 2 ^ n : Nat) : Int), junk, .int .i64 n, junk, junk, junk, junk, junk, junk, junk, junk, junk, junk, junk, junk, junk, junk, junk, junk, junk, junk, junk, junk, junk, junk]) ?_ ?_
  · refine cond_p rfl (fun h => ?_) (fun h => ?_)
    · (refine yg ?_)
      exact ⟨rfl, rfl, 32, by omega, by simp; omega, by simp; omega, by simp [forget]⟩
    · (refine yg ?_)
      exact ⟨rfl, rfl, 0, by omega, by simp; omega, by simp; omega, by simp [forget]⟩
  rintro e H' ⟨rfl, n, hn, h1, h2, rfl⟩
  (refine yg ?_)
  refine awp_mid [true, false, true, false, false, false, false, false, false, false, false, false, false, false, false, false, false, false, false, false, false, false, false, false, false] (fun e H'' => H'' = H' ∧ ∃ n : Nat, n ≤ 48 ∧ 0 < xn / 2 ^ n ∧ xn / 2 ^ n < 65536 ∧ e = [.int .u64 ((xn / 2 ^ n : Nat) : Int), junk, .int .i64 n, junk, junk, junk, junk, junk, junk, junk, junk, junk, junk, junk, junk, junk, junk, junk, junk, junk, junk, junk, junk, junk, junk]) ?_ ?_
  · refine cond_p rfl (fun h => ?_) (fun h => ?_)
    · have e1 : xn / 2 ^ (n + 16) = xn / 2 ^ n / 65536 := by rw [Nat.pow_add, Nat.div_div_eq_div_mul]
      (refine yg ?_)
      exact ⟨rfl, rfl, n + 16, by omega, by rw [e1]; omega, by rw [e1]; omega, by rw [e1]; simp [forget]⟩
    · (refine yg ?_)
      exact ⟨rfl, rfl, n, by omega, h1, by omega, by simp [forget]⟩
  rintro e H'' ⟨rfl, n, hn, h1, h2, rfl⟩
  (refine yg ?_)
  refine awp_mid [true, false, true, false, false, false, false, false, false, false, false, false, false, false, false, false, false, false, false, false, false, false, false, false, false] (fun e H' => H' = H'' ∧ ∃ n : Nat, n ≤ 56 ∧ 0 < xn / 2 ^ n ∧ xn / 2 ^ n < 256 ∧ e = [.int .u64 ((xn / 2 ^ n : Nat) : Int), junk, .int .i64 n, junk, junk, junk, junk, junk, junk, junk, junk, junk, junk, junk, junk, junk, junk, junk, junk, junk, junk, junk, junk, junk, junk]) ?_ ?_
  · refine cond_p rfl (fun h => ?_) (fun h => ?_)
    · have e1 : xn / 2 ^ (n + 8) = xn / 2 ^ n / 256 := by rw [Nat.pow_add, Nat.div_div_eq_div_mul]
      (refine yg ?_)
      exact ⟨rfl, rfl, n + 8, by omega, by rw [e1]; omega, by rw [e1]; omega, by rw [e1]; simp [forget]⟩
    · (refine yg ?_)
      exact ⟨rfl, rfl, n, by omega, h1, by omega, by simp [forget]⟩
  rintro e H' ⟨rfl, n, hn, h1, h2, rfl⟩
  obtain ⟨l1, l2, l3, l4⟩ := len8_spec h1 h2
  (repeat (first | refine yw ?_ | ((first | apply yd | apply ye); simp (disch := first|exact zz|fail) only [go_sem, conv_u8, tab8 h2]; with_reducible rfl)))
  refine fin_1 ⟨rfl, n + len8 (xn / 2 ^ n), by simp, by omega, by omega, ?_⟩
  obtain ⟨k1, k2⟩ := pow_split l1 l3 l4
  exact ⟨by exact_mod_cast k1, by exact_mod_cast k2⟩
theorem lz64_c {x : Int} (hx : 0 < x ∧ x < 18446744073709551616) : ACall Go.Proofs.Tryz.prog 75 [.int .u64 x] H fun v H' => H' = H ∧ ∃ s : Nat, v = .int .i64 s ∧ s < 64 ∧ 9223372036854775808 ≤ x * ((2 ^ s : Nat) : Int) ∧ x * ((2 ^ s : Nat) : Int) < 18446744073709551616 := by
  (refine a75 ?_; simp only [n75, List.replicate, yq, yr, yt, yu]; first | refine q1 ?_ | refine q2 ?_ | refine q6 ?_ | refine q7 ?_ | refine qh rfl ?_ | skip)
  (refine yg ?_)
  refine aops_call ((len64_c hx).mono fun u H' ⟨h1, n, h2, n1, n2, n3, n4⟩ => ?_)
  subst h1; subst h2
  obtain ⟨xn, rfl⟩ : ∃ n : Nat, x = n := ⟨x.toNat, by omega⟩
  (refine yg ?_)
  refine fin_1 ⟨rfl, 64 - n, by simp; omega, by omega, ?_⟩
  have k1 : 2 ^ (n - 1) ≤ xn := by exact_mod_cast n3
  have k2 : xn < 2 ^ n := by exact_mod_cast n4
  have p0 : 0 < 2 ^ (64 - n) := Nat.pow_pos (by omega)
  have k3 := Nat.mul_le_mul_right (2 ^ (64 - n)) k1
  have k4 := Nat.mul_lt_mul_of_pos_right k2 p0
  rw [← Nat.pow_add, show n - 1 + (64 - n) = 63 by omega] at k3
  rw [← Nat.pow_add, show n + (64 - n) = 64 by omega] at k4
  rw [← Int.natCast_mul]
  generalize xn * 2 ^ (64 - n) = z at *
  have : (2 : Nat) ^ 63 = 9223372036854775808 := by decide
  have : (2 : Nat) ^ 64 = 18446744073709551616 := by decide
  omega
end
end Go.Lq

namespace Go.Lq
open Go
open Go.Proofs

theorem left_flow {u u1 Q y1 y0 V : Int} (h : Digit y1 y0 u u1) (hV : V = y1 * 4294967296 + y0) (hq : Q = quoD y1 y0 u u1) : wu (wu (wu (u * 4294967296) + u1) - wu (Q * V)) = (u * 4294967296 + u1) % V := by
  have h1 := h.left hq
  have h2 := h.vpos
  have h3 := h.b1
  have h4 := h.b0
  rw [← hV] at h1 h2
  have h5 := Int.emod_nonneg (u * 4294967296 + u1) (show V ≠ 0 by omega)
  have h6 := Int.emod_lt_of_pos (u * 4294967296 + u1) h2
  simp only [wu_eq]
  have h7 : V < 18446744073709551616 := by omega
  generalize (u * 4294967296 + u1) % V = R at *
  generalize Q * V = z at *
  generalize u * 4294967296 = x at *
  omega

section
variable {H : AHeap}
set_option maxHeartbeats 4000000 in
theorem div64_c {hi lo y : Int} (hh : 0 ≤ hi ∧ hi < y) (hl : 0 ≤ lo ∧ lo < 18446744073709551616) (hy : y < 18446744073709551616) : ACall Go.Proofs.Tryz.prog 46 [.int .u64 hi, .int .u64 lo, .int .u64 y] H fun v H' =>
    v = .tuple #[.int .u64 ((hi * 18446744073709551616 + lo) / y), .int .u64 ((hi * 18446744073709551616 + lo) % y)] ∧ H' = H := by
  (refine a46 ?_; simp only [n46, List.replicate, yq, yr, yt, yu]; first | refine Go.Lq.q1 ?_ | refine Go.Lq.q2 ?_ | refine Go.Lq.q6 ?_ | refine Go.Lq.q7 ?_ | refine Go.Lq.qh rfl ?_ | skip)
  (repeat (first | refine yw ?_ | ((first | apply yd | apply ye); simp (disch := first|exact zz|fail) only [go_sem, dec_f (show ¬ y = 0 by omega)]; with_reducible rfl)))
  refine cond_f rfl ?_
  (repeat (first | refine yw ?_ | ((first | apply yd | apply ye); simp (disch := first|exact zz|fail) only [go_sem, dec_f (show ¬ y ≤ hi by omega)]; with_reducible rfl)))
  refine cond_f rfl ?_
  have hy0 : 0 < y := by omega
  by_cases h0 : hi = 0
  · subst h0
    have e1 : lo.tdiv y = lo / y := Int.tdiv_eq_ediv_of_nonneg hl.1
    have e2 : lo.tmod y = lo % y := Int.tmod_eq_emod_of_nonneg hl.1
    have q1 := Int.ediv_nonneg hl.1 (Int.le_of_lt hy0)
    have q2 := Int.ediv_le_self y hl.1
    (refine yg ?_)
    refine cond_t rfl ?_
    (repeat (first | refine yw ?_ | ((first | apply yd | apply ye); simp (disch := first|exact zz|fail) only [go_sem, a_quoU (show y ≠ 0 by omega), a_remU (show y ≠ 0 by omega), e1, e2]; with_reducible rfl)))
    exact fin_2 ⟨by simp, rfl⟩
  (repeat (first | refine yw ?_ | ((first | apply yd | apply ye); simp (disch := first|exact zz|fail) only [go_sem, dec_f h0]; with_reducible rfl)))
  refine cond_f rfl ?_
  (refine yg ?_)
  refine aops_call ((lz64_c ⟨hy0, hy⟩).mono fun u H' ⟨h1, s, h2, s64, n1, n2⟩ => ?_)
  subst h1; subst h2
  have t1 : ((64 : Int) - (s : Int)).toNat = 64 - s := by omega
  have hS : ((2 ^ s : Nat) : Int) * ((2 ^ (64 - s) : Nat) : Int) = 18446744073709551616 := by
    rw [← Int.natCast_mul, ← Nat.pow_add, show s + (64 - s) = 64 by omega]; decide
  have hSp : (0 : Int) < ((2 ^ s : Nat) : Int) := by have := Nat.pow_pos (n := s) (show 0 < 2 by omega); omega
  have hTp : (0 : Int) < ((2 ^ (64 - s) : Nat) : Int) := by have := Nat.pow_pos (n := 64 - s) (show 0 < 2 by omega); omega
  have hTl : lo / ((2 ^ (64 - s) : Nat) : Int) < ((2 ^ s : Nat) : Int) := Int.ediv_lt_of_lt_mul hTp (by rw [hS]; exact hl.2)
  have hTn : 0 ≤ lo / ((2 ^ (64 - s) : Nat) : Int) := Int.ediv_nonneg hl.1 (Int.le_of_lt hTp)
  have hls : lo * ((2 ^ s : Nat) : Int) = lo / ((2 ^ (64 - s) : Nat) : Int) * 18446744073709551616 + lo * ((2 ^ s : Nat) : Int) % 18446744073709551616 := by
    have a1 := Int.mul_ediv_add_emod (lo * ((2 ^ s : Nat) : Int)) 18446744073709551616
    have a2 : lo * ((2 ^ s : Nat) : Int) / 18446744073709551616 = lo / ((2 ^ (64 - s) : Nat) : Int) := by
      rw [← hS, Int.mul_comm lo]
      exact Int.mul_ediv_mul_of_pos _ _ hSp
    rw [a2] at a1
    omega
  have hcS : (hi + 1) * ((2 ^ s : Nat) : Int) ≤ y * ((2 ^ s : Nat) : Int) := Int.mul_le_mul_of_nonneg_right (by omega) (Int.le_of_lt hSp)
  rw [Int.add_mul, Int.one_mul] at hcS
  have hhS : 0 ≤ hi * ((2 ^ s : Nat) : Int) := Int.mul_nonneg hh.1 (Int.le_of_lt hSp)
  have hbor := fun H' => bor_add (H := H') (s := s) (c := hi) (b := lo / ((2 ^ (64 - s) : Nat) : Int)) hh.1 (by omega) hTn hTl (by omega)
  have hdiv := fun U32 U1 U0 Q1 Q0 R1 R0 => @div_two (hi * 18446744073709551616 + lo) y ((2 ^ s : Nat) : Int) (y * ((2 ^ s : Nat) : Int)) hi lo U32 U1 U0 Q1 Q0 R1 R0 hSp hy0 rfl rfl
  have hUs : (hi * 18446744073709551616 + lo) * ((2 ^ s : Nat) : Int) = (hi * ((2 ^ s : Nat) : Int) + lo / ((2 ^ (64 - s) : Nat) : Int)) * 18446744073709551616 + lo * ((2 ^ s : Nat) : Int) % 18446744073709551616 := by
    rw [Int.add_mul, Int.add_mul, Int.add_assoc, ← hls]
    congr 1
    ac_rfl
  have hu32 : 0 ≤ hi * ((2 ^ s : Nat) : Int) + lo / ((2 ^ (64 - s) : Nat) : Int) ∧ hi * ((2 ^ s : Nat) : Int) + lo / ((2 ^ (64 - s) : Nat) : Int) < y * ((2 ^ s : Nat) : Int) := by omega
  have hV1 : 9223372036854775808 ≤ y * ((2 ^ s : Nat) : Int) := n1
  obtain ⟨V, hVd⟩ : ∃ V, y * ((2 ^ s : Nat) : Int) = V := ⟨_, rfl⟩
  obtain ⟨U32, hUd⟩ : ∃ U, hi * ((2 ^ s : Nat) : Int) + lo / ((2 ^ (64 - s) : Nat) : Int) = U := ⟨_, rfl⟩
  obtain ⟨U10, hLd⟩ : ∃ U, lo * ((2 ^ s : Nat) : Int) % 18446744073709551616 = U := ⟨_, rfl⟩
  obtain ⟨y1, hy1⟩ : ∃ z, V / 4294967296 = z := ⟨_, rfl⟩
  obtain ⟨y0, hy0'⟩ : ∃ z, V % 4294967296 = z := ⟨_, rfl⟩
  obtain ⟨U1, hU1⟩ : ∃ z, U10 / 4294967296 = z := ⟨_, rfl⟩
  obtain ⟨U0, hU0⟩ : ∃ z, U10 % 4294967296 = z := ⟨_, rfl⟩
  have hV2 : V = y1 * 4294967296 + y0 := by omega
  rw [hVd] at hu32 hV1 n2
  rw [hUd] at hu32
  have hLb : 0 ≤ U10 ∧ U10 < 18446744073709551616 := by omega
  have D : Digit y1 y0 U32 U1 := ⟨by omega, by omega, by omega, by omega⟩
  have e1 : U32.tdiv y1 = U32 / y1 := Int.tdiv_eq_ediv_of_nonneg D.bu.1
  have q1b := Int.ediv_le_self y1 D.bu.1
  have q1n := Int.ediv_nonneg D.bu.1 (show 0 ≤ y1 by have := D.b1; omega)
  have q1m : 0 ≤ U32 / y1 * y1 ∧ U32 / y1 * y1 ≤ U32 := ⟨Int.mul_nonneg q1n (by have := D.b1; omega), Int.ediv_mul_le _ (by have := D.b1; omega)⟩
  have q1r : U32 - U32 / y1 * y1 = U32 % y1 := by have := Int.mul_ediv_add_emod U32 y1; rw [Int.mul_comm] at this; omega
  have q1e := Int.emod_nonneg U32 (show y1 ≠ 0 by have := D.b1; omega)
  have q1l := Int.emod_lt_of_pos U32 (show 0 < y1 by have := D.b1; omega)
  have hb1 := D.b1
  have hb0 := D.b0
  have hbu := D.bu
  have hbu1 := D.bu1
  have hshr : ∀ J : AHeap, shrR (.int .u64 lo) (.int .u64 ((64 : Int) - (s : Int))) J = some (.int .u64 (lo / ((2 ^ (64 - s) : Nat) : Int)), J) := fun J => by rw [shr_u hl.1 (by omega) (by omega), t1]
  (repeat (first | refine yw ?_ | ((first | apply yd | apply ye); simp (disch := first|exact zz|fail) only [go_sem, shl_u, hshr, hbor, wu_eq (lo * ((2 ^ s : Nat) : Int)), hVd, hUd, hLd, hy1, hy0', hU1, hU0, a_quoU (show y1 ≠ 0 by omega), e1, q1r]; with_reducible rfl)))
  refine awp_midB [false, false, true, false, false, false, false, false, true, true, true, true, false, true, true, true, false, false, false, false, false, false, false, false, false, false, false, false, false, false, false, false, false, false, false, false, false, false, false, false, false, false, false, false, false, false, false, false, false, false, false, false, false, false, false, false, false, false, false, false, false, false, false, false, false, false, false, false, false, false, false, false, false, false, false, false, false, false, false, false, false, false, false, false, false, false, false, false, false, false, false, false, false, false, false, false, false, false, false, false, false, false, false, false, false, false, false, false, false, false, false, false, false, false, false, false, false, false, false, false, false, false, false, false, false, false, false, false, false, false, false, false, false, false, false] (fun e J => J = H' ∧ e = [junk, junk, .int .u64 V, junk, junk, junk, junk, junk, .int .u64 s, .int .u64 y1, .int .u64 y0, .int .u64 U32, junk, .int .u64 U1, .int .u64 U0, .int .u64 (quoD y1 y0 U32 U1), junk, junk, junk, junk, junk, junk, junk, junk, junk, junk, junk, junk, junk, junk, junk, junk, junk, junk, junk, junk, junk, junk, junk, junk, junk, junk, junk, junk, junk, junk, junk, junk, junk, junk, junk, junk, junk, junk, junk, junk, junk, junk, junk, junk, junk, junk, junk, junk, junk, junk, junk, junk, junk, junk, junk, junk, junk, junk, junk, junk, junk, junk, junk, junk, junk, junk, junk, junk, junk, junk, junk, junk, junk, junk, junk, junk, junk, junk, junk, junk, junk, junk, junk, junk, junk, junk, junk, junk, junk, junk, junk, junk, junk, junk, junk, junk, junk, junk, junk, junk, junk, junk, junk, junk, junk, junk, junk, junk, junk, junk, junk, junk, junk, junk, junk, junk, junk, junk, junk]) ?_ ?_
  · have hfst := D.first
    have q2 := Int.ediv_nonneg D.bu.1 (show 0 ≤ y1 by omega)
    refine awp_loop [false, false, true, false, false, false, false, false, true, true, true, true, false, true, true, true, true, false, false, false, false, false, false, false, false, false, false, false, false, false, false, false, false, false, false, false, false, false, false, false, false, false, false, false, false, false, false, false, false, false, false, false, false, false, false, false, false, false, false, false, false, false, false, false, false, false, false, false, false, false, false, false, false, false, false, false, false, false, false, false, false, false, false, false, false, false, false, false, false, false, false, false, false, false, false, false, false, false, false, false, false, false, false, false, false, false, false, false, false, false, false, false, false, false, false, false, false, false, false, false, false, false, false, false, false, false, false, false, false, false, false, false, false, false, false] (fun k e J => J = H' ∧ ∃ q r : Int, k = q.toNat ∧ U32 = q * y1 + r ∧ quoD y1 y0 U32 U1 ≤ q ∧ (0 ≤ r ∧ r < 4294967296) ∧ e = [junk, junk, .int .u64 V, junk, junk, junk, junk, junk, .int .u64 s, .int .u64 y1, .int .u64 y0, .int .u64 U32, junk, .int .u64 U1, .int .u64 U0, .int .u64 q, .int .u64 r, junk, junk, junk, junk, junk, junk, junk, junk, junk, junk, junk, junk, junk, junk, junk, junk, junk, junk, junk, junk, junk, junk, junk, junk, junk, junk, junk, junk, junk, junk, junk, junk, junk, junk, junk, junk, junk, junk, junk, junk, junk, junk, junk, junk, junk, junk, junk, junk, junk, junk, junk, junk, junk, junk, junk, junk, junk, junk, junk, junk, junk, junk, junk, junk, junk, junk, junk, junk, junk, junk, junk, junk, junk, junk, junk, junk, junk, junk, junk, junk, junk, junk, junk, junk, junk, junk, junk, junk, junk, junk, junk, junk, junk, junk, junk, junk, junk, junk, junk, junk, junk, junk, junk, junk, junk, junk, junk, junk, junk, junk, junk, junk, junk, junk, junk, junk, junk, junk]) (U32 / y1).toNat ?_ ?_
    · refine ⟨rfl, U32 / y1, U32 % y1, rfl, ?_, hfst, ⟨Int.emod_nonneg _ (by omega), by have := Int.emod_lt_of_pos U32 (show 0 < y1 by omega); omega⟩, by simp [forget]⟩
      have := Int.mul_ediv_add_emod U32 y1
      rw [Int.mul_comm] at this
      omega
    rintro k e J ⟨rfl, q, r, rfl, hu, hq, hr, rfl⟩
    obtain ⟨w1, w2, w3, w4⟩ := D.bound hu hq hr.1
    have hu' : U32 = (q - 1) * y1 + (r + y1) := by rw [Int.sub_mul, Int.one_mul]; omega
    have D0 := D.quo_nn
    by_cases hA : 4294967296 ≤ q
    · have hst := D.step hu (.inl hA)
      (repeat (first | refine yw ?_ | ((first | apply yd | apply ye); simp (disch := first|exact zz|fail) only [go_sem, dec_t hA]; with_reducible rfl)))
      refine cond_t rfl ?_
      (refine yg ?_)
      refine cond_p rfl (fun hx => ?_) (fun hx => ?_)
      · have hd := D.done2 hu' hst hx
        (refine yg ?_)
        exact ⟨rfl, rfl, by rw [← hd]; simp [forget]⟩
      · (refine yg ?_)
        exact ⟨(q - 1).toNat, by omega, rfl, q - 1, r + y1, rfl, hu', hst, by omega, by simp [forget]⟩
    · have m1 := mul_abs (x := q) (y := y0) (a := 4294967295) (b := 4294967295) ⟨by omega, by omega⟩ ⟨by omega, by omega⟩
      have m2 := Int.mul_nonneg w1 D.b0.1
      (repeat (first | refine yw ?_ | ((first | apply yd | apply ye); simp (disch := first|exact zz|fail) only [go_sem, dec_f hA]; with_reducible rfl)))
      refine cond_p rfl (fun hc => ?_) (fun hc => ?_)
      · have hst := D.step hu (.inr hc)
        (refine yg ?_)
        refine cond_p rfl (fun hx => ?_) (fun hx => ?_)
        · have hd := D.done2 hu' hst hx
          (refine yg ?_)
          exact ⟨rfl, rfl, by rw [← hd]; simp [forget]⟩
        · (refine yg ?_)
          exact ⟨(q - 1).toNat, by omega, rfl, q - 1, r + y1, rfl, hu', hst, by omega, by simp [forget]⟩
      · have hd := D.done hu hq (by omega)
        (refine yg ?_)
        exact ⟨rfl, rfl, by rw [← hd]; simp [forget]⟩
  rintro e J ⟨rfl, rfl⟩
  have hfl := left_flow D hV2 rfl
  obtain ⟨Q1, hQ1⟩ : ∃ z, quoD y1 y0 U32 U1 = z := ⟨_, rfl⟩
  obtain ⟨R1, hR1⟩ : ∃ z, (U32 * 4294967296 + U1) % V = z := ⟨_, rfl⟩
  have hQb : 0 ≤ Q1 ∧ Q1 < 4294967296 := by rw [← hQ1]; exact ⟨D.quo_nn, D.quo_lt⟩
  rw [hR1, hQ1] at hfl
  rw [hQ1]
  have hR1b : 0 ≤ R1 ∧ R1 < V := by rw [← hR1]; exact ⟨Int.emod_nonneg _ (by omega), Int.emod_lt_of_pos _ (by omega)⟩
  have D2 : Digit y1 y0 R1 U0 := ⟨by omega, by omega, by omega, by omega⟩
  have e2 : R1.tdiv y1 = R1 / y1 := Int.tdiv_eq_ediv_of_nonneg hR1b.1
  have p1b := Int.ediv_le_self y1 hR1b.1
  have p1n := Int.ediv_nonneg hR1b.1 (show 0 ≤ y1 by omega)
  have p1m : 0 ≤ R1 / y1 * y1 ∧ R1 / y1 * y1 ≤ R1 := ⟨Int.mul_nonneg p1n (by omega), Int.ediv_mul_le _ (by omega)⟩
  have p1r : R1 - R1 / y1 * y1 = R1 % y1 := by have := Int.mul_ediv_add_emod R1 y1; rw [Int.mul_comm] at this; omega
  have p1e := Int.emod_nonneg R1 (show y1 ≠ 0 by omega)
  have p1l := Int.emod_lt_of_pos R1 (show 0 < y1 by omega)
  (repeat (first | refine yw ?_ | ((first | apply yd | apply ye); simp (disch := first|exact zz|fail) only [go_sem, hfl, a_quoU (show y1 ≠ 0 by omega), e2, p1r]; with_reducible rfl)))
  refine awp_midB [false, false, true, false, false, false, false, false, true, true, true, false, false, false, true, true, false, true, true, false, false, false, false, false, false, false, false, false, false, false, false, false, false, false, false, false, false, false, false, false, false, false, false, false, false, false, false, false, false, false, false, false, false, false, false, false, false, false, false, false, false, false, false, false, false, false, false, false, false, false, false, false, false, false, false, false, false, false, false, false, false, false, false, false, false, false, false, false, false, false, false, false, false, false, false, false, false, false, false, false, false, false, false, false, false, false, false, false, false, false, false, false, false, false, false, false, false, false, false, false, false, false, false, false, false, false, false, false, false, false, false, false, false, false, false] (fun e K => K = J ∧ e = [junk, junk, .int .u64 V, junk, junk, junk, junk, junk, .int .u64 s, .int .u64 y1, .int .u64 y0, junk, junk, junk, .int .u64 U0, .int .u64 Q1, junk, .int .u64 R1, .int .u64 (quoD y1 y0 R1 U0), junk, junk, junk, junk, junk, junk, junk, junk, junk, junk, junk, junk, junk, junk, junk, junk, junk, junk, junk, junk, junk, junk, junk, junk, junk, junk, junk, junk, junk, junk, junk, junk, junk, junk, junk, junk, junk, junk, junk, junk, junk, junk, junk, junk, junk, junk, junk, junk, junk, junk, junk, junk, junk, junk, junk, junk, junk, junk, junk, junk, junk, junk, junk, junk, junk, junk, junk, junk, junk, junk, junk, junk, junk, junk, junk, junk, junk, junk, junk, junk, junk, junk, junk, junk, junk, junk, junk, junk, junk, junk, junk, junk, junk, junk, junk, junk, junk, junk, junk, junk, junk, junk, junk, junk, junk, junk, junk, junk, junk, junk, junk, junk, junk, junk, junk, junk]) ?_ ?_
  · have hfst := D2.first
    have q2 := Int.ediv_nonneg D2.bu.1 (show 0 ≤ y1 by omega)
    refine awp_loop [false, false, true, false, false, false, false, false, true, true, true, false, false, false, true, true, true, true, true, false, false, false, false, false, false, false, false, false, false, false, false, false, false, false, false, false, false, false, false, false, false, false, false, false, false, false, false, false, false, false, false, false, false, false, false, false, false, false, false, false, false, false, false, false, false, false, false, false, false, false, false, false, false, false, false, false, false, false, false, false, false, false, false, false, false, false, false, false, false, false, false, false, false, false, false, false, false, false, false, false, false, false, false, false, false, false, false, false, false, false, false, false, false, false, false, false, false, false, false, false, false, false, false, false, false, false, false, false, false, false, false, false, false, false, false] (fun k e K => K = J ∧ ∃ q r : Int, k = q.toNat ∧ R1 = q * y1 + r ∧ quoD y1 y0 R1 U0 ≤ q ∧ (0 ≤ r ∧ r < 4294967296) ∧ e = [junk, junk, .int .u64 V, junk, junk, junk, junk, junk, .int .u64 s, .int .u64 y1, .int .u64 y0, junk, junk, junk, .int .u64 U0, .int .u64 Q1, .int .u64 r, .int .u64 R1, .int .u64 q, junk, junk, junk, junk, junk, junk, junk, junk, junk, junk, junk, junk, junk, junk, junk, junk, junk, junk, junk, junk, junk, junk, junk, junk, junk, junk, junk, junk, junk, junk, junk, junk, junk, junk, junk, junk, junk, junk, junk, junk, junk, junk, junk, junk, junk, junk, junk, junk, junk, junk, junk, junk, junk, junk, junk, junk, junk, junk, junk, junk, junk, junk, junk, junk, junk, junk, junk, junk, junk, junk, junk, junk, junk, junk, junk, junk, junk, junk, junk, junk, junk, junk, junk, junk, junk, junk, junk, junk, junk, junk, junk, junk, junk, junk, junk, junk, junk, junk, junk, junk, junk, junk, junk, junk, junk, junk, junk, junk, junk, junk, junk, junk, junk, junk, junk, junk]) (R1 / y1).toNat ?_ ?_
    · refine ⟨rfl, R1 / y1, R1 % y1, rfl, ?_, hfst, ⟨Int.emod_nonneg _ (by omega), by have := Int.emod_lt_of_pos R1 (show 0 < y1 by omega); omega⟩, by simp [forget]⟩
      have := Int.mul_ediv_add_emod R1 y1
      rw [Int.mul_comm] at this
      omega
    rintro k e K ⟨rfl, q, r, rfl, hu, hq, hr, rfl⟩
    obtain ⟨w1, w2, w3, w4⟩ := D2.bound hu hq hr.1
    have hu' : R1 = (q - 1) * y1 + (r + y1) := by rw [Int.sub_mul, Int.one_mul]; omega
    have D0 := D2.quo_nn
    by_cases hA : 4294967296 ≤ q
    · have hst := D2.step hu (.inl hA)
      (repeat (first | refine yw ?_ | ((first | apply yd | apply ye); simp (disch := first|exact zz|fail) only [go_sem, dec_t hA]; with_reducible rfl)))
      refine cond_t rfl ?_
      (refine yg ?_)
      refine cond_p rfl (fun hx => ?_) (fun hx => ?_)
      · have hd := D2.done2 hu' hst hx
        (refine yg ?_)
        exact ⟨rfl, rfl, by rw [← hd]; simp [forget]⟩
      · (refine yg ?_)
        exact ⟨(q - 1).toNat, by omega, rfl, q - 1, r + y1, rfl, hu', hst, by omega, by simp [forget]⟩
    · have m1 := mul_abs (x := q) (y := y0) (a := 4294967295) (b := 4294967295) ⟨by omega, by omega⟩ ⟨by omega, by omega⟩
      have m2 := Int.mul_nonneg w1 D2.b0.1
      (repeat (first | refine yw ?_ | ((first | apply yd | apply ye); simp (disch := first|exact zz|fail) only [go_sem, dec_f hA]; with_reducible rfl)))
      refine cond_p rfl (fun hc => ?_) (fun hc => ?_)
      · have hst := D2.step hu (.inr hc)
        (refine yg ?_)
        refine cond_p rfl (fun hx => ?_) (fun hx => ?_)
        · have hd := D2.done2 hu' hst hx
          (refine yg ?_)
          exact ⟨rfl, rfl, by rw [← hd]; simp [forget]⟩
        · (refine yg ?_)
          exact ⟨(q - 1).toNat, by omega, rfl, q - 1, r + y1, rfl, hu', hst, by omega, by simp [forget]⟩
      · have hd := D2.done hu hq (by omega)
        (refine yg ?_)
        exact ⟨rfl, rfl, by rw [← hd]; simp [forget]⟩
  rintro e K ⟨rfl, rfl⟩
  have hfl2 := left_flow D2 hV2 rfl
  obtain ⟨Q0, hQ0⟩ : ∃ z, quoD y1 y0 R1 U0 = z := ⟨_, rfl⟩
  obtain ⟨R0, hR0⟩ : ∃ z, (R1 * 4294967296 + U0) % V = z := ⟨_, rfl⟩
  have hQ0b : 0 ≤ Q0 ∧ Q0 < 4294967296 := by rw [← hQ0]; exact ⟨D2.quo_nn, D2.quo_lt⟩
  rw [hR0, hQ0] at hfl2
  rw [hQ0]
  have hR0b : 0 ≤ R0 ∧ R0 < V := by rw [← hR0]; exact ⟨Int.emod_nonneg _ (by omega), Int.emod_lt_of_pos _ (by omega)⟩
  have hend := hdiv U32 U1 U0 Q1 Q0 R1 R0 (by rw [hUs, hUd, hLd]; omega) (by
    rw [hVd, ← hQ1, ← hR1, hV2]
    have := Int.mul_ediv_add_emod (U32 * 4294967296 + U1) (y1 * 4294967296 + y0)
    rw [Int.mul_comm] at this
    unfold quoD; omega) (by
    rw [hVd, ← hQ0, ← hR0, hV2]
    have := Int.mul_ediv_add_emod (R1 * 4294967296 + U0) (y1 * 4294967296 + y0)
    rw [Int.mul_comm] at this
    unfold quoD; omega) (by rw [hVd]; exact hR0b)
  have hshr2 : ∀ J : AHeap, shrR (.int .u64 R0) (.int .u64 (s : Int)) J = some (.int .u64 (R0 / ((2 ^ s : Nat) : Int)), J) := fun J => by rw [shr_u hR0b.1 (by omega) (by omega), Int.toNat_natCast]
  (repeat (first | refine yw ?_ | ((first | apply yd | apply ye); simp (disch := first|exact zz|fail) only [go_sem, hfl2, hshr2]; with_reducible rfl)))
  refine fin_2 ⟨?_, rfl⟩
  show Value.tuple #[.int .u64 (Q1 * 4294967296 + Q0), .int .u64 (R0 / ((2 ^ s : Nat) : Int))] = _
  rw [hend.1, hend.2]
end
end Go.Lq

namespace Go.Lq
open Go
open Go.Proofs

def posRes (l : List (Int × Int)) (t : Int) : Option Nat → (Int × Int) × Int
  | none => ((0, 0), 2)
  | some i => ((posLo (pieceOf l i) t, posHi (pieceOf l i) t), 0)
def posAtL (l : List (Int × Int)) (t : Int) : (Int × Int) × Int := if mapErrL l = 0 then posRes l t (findP (inTime t) l 0 (l.length - 1)) else ((0, 0), mapErrL l)
theorem conv_iu64 {n : Int} {H : AHeap} (h : 0 ≤ n) (h2 : n < 18446744073709551616) : convR .u64 (.int .i64 n) H = some (.int .u64 n, H) := by
  have : IntKind.u64.wrap n = n := by
    show wu n = n
    exact wu_id h h2
  simp [convR, this]

theorem conv_ui64 {n : Int} {H : AHeap} (h : 0 ≤ n) (h2 : n ≤ 1000000000000000) : convR .i64 (.int .u64 n) H = some (.int .i64 n, H) := by
  have : IntKind.i64.wrap n = n := by
    show w64 n = n
    exact w64_id (by omega) (by omega)
  simp [convR, this]
theorem fill1v {x v : Value} (h : isAtom v = true) : fillA [x] [(0, 1, .agg ⟨[v]⟩)] = some [v] := by
  have e1 : (Value.agg ⟨[v]⟩).cells = ⟨[v]⟩ := rfl
  simp [fillA, e1, h, setCells]
section
variable {H : AHeap}
theorem positionAt1_c {t : Int} {q : (Int × Int) × (Int × Int)} {id : Nat} (h : H[id]? = some (.cells true 0 [.int .i64 t])) : ACall Go.Proofs.Tryz.prog 42 [pieceV q, .pointer (some ⟨id, 0, none⟩)] H fun v H' => v = .bool (inTime t q) ∧ H' = H := by
  refine ACall.drop (.bool _) ?_
  (refine a42 ?_; simp only [n42, List.replicate, yq, yr, yt, yu]; first | refine q1 ?_ | refine q2 ?_ | refine q6 ?_ | refine q7 ?_ | refine qh rfl ?_ | skip)
  have g0 : (H ++ [AObj.cells true 0 (pieceC q)])[H.length]? = some (.cells true 0 (pieceC q)) := at_new
  have xG : Ext H (H ++ [AObj.cells true 0 (pieceC q)]) := (Ext.refl H).app _
  have h1 := xG.cell h
  (repeat (first | refine yv ?_ | (apply yd; simp (disch := first|exact zz|fail) only [go_sem, box_piece]; with_reducible rfl)))
  generalize (H ++ [AObj.cells true 0 (pieceC q)] : AHeap) = G at g0 xG h1
  (repeat (first | refine yw ?_ | ((first | apply yd | apply ye); simp (disch := first|exact zz|fail) only [go_sem, load_at g0, load_at h1, pieceC]; with_reducible rfl)))
  refine aops_call_to (swithin_c _ _ _) ?_
  (refine yg ?_)
  exact fin_1 ⟨rfl, xG⟩
set_option maxHeartbeats 4000000 in
theorem positionAt_c {l : List (Int × Int)} {v : Value} {t : Int} (hl : Pairs H l v) (hb : l.length ≤ 1000000000) : ACall Go.Proofs.Tryz.prog 19 [.agg ⟨[v]⟩, .int .i64 t] H fun w H' =>
    w = .tuple #[fracV (posAtL l t).1, .int .i64 (posAtL l t).2] ∧ H' = H := by
  refine ACall.drop (closed_frac1 _ _) ?_
  (refine a19 ?_; simp only [n19, List.replicate, yq, yr, yt, yu]; first | refine Go.Lq.q1 ?_ | refine Go.Lq.q2 ?_ | refine Go.Lq.q6 ?_ | refine Go.Lq.q7 ?_ | refine Go.Lq.qh rfl ?_ | skip)
  obtain ⟨G, hG⟩ : ∃ G, G = H ++ [AObj.cells true 0 [v]] ++ [AObj.cells true 0 [.int .i64 t]] ++ [AObj.cells true 0 [.int .i64 0, .int .i64 0]] := ⟨_, rfl⟩
  have g0 : G[H.length]? = some (.cells true 0 [v]) := by rw [hG]; simp
  have g1 : G[H.length + 1]? = some (.cells true 0 [.int .i64 t]) := by rw [hG]; simp
  have g2 : G[H.length + 2]? = some (.cells true 0 [.int .i64 0, .int .i64 0]) := by rw [hG]; simp
  have xG : Ext H G := by rw [hG]; exact (((Ext.refl H).app _).app _).app _
  have lG : G.length = H.length + 3 := by rw [hG]; simp
  have hf1 : fillA [.slice none 0 0] [(0, 1, .agg ⟨[v]⟩)] = some [v] := fill1v hl.atom
  have hms : ∀ J : AHeap, mkSliceL 1 1 (some [v]) J = some (.slice (some ⟨J.length, 0, none⟩) 1 1, J ++ [.cells true 1 [v]]) := fun J => mkSliceL_some (by simp [hl.atom])
  have hbi : ∀ J : AHeap, boxR (.int .i64 t) J = some (.pointer (some ⟨J.length, 0, none⟩), J ++ [.cells true 0 [.int .i64 t]]) := fun J => rfl
  (repeat (first | refine yv ?_ | (apply yd; simp (disch := first|exact zz|fail) only [go_sem, hl.box1, hbi]; with_reducible rfl)))
  (simp only [List.length_append, List.length_cons, List.length_nil, Nat.zero_add, Nat.add_assoc, Nat.reduceAdd])
  rw [← hG]
  clear hG
  (repeat (first | refine yw ?_ | ((first | apply yd | apply ye); simp (disch := first|exact zz|fail) only [go_sem, n1_at g0, hf1, hms]; with_reducible rfl)))
  have hS : Sl (G ++ [AObj.cells true 1 [v]]) 1 1 [v] (.slice (some ⟨G.length, 0, none⟩) 1 1) := Sl.last rfl 1
  have x2 : Ext G (G ++ [AObj.cells true 1 [v]]) := (Ext.refl G).app _
  generalize (G ++ [AObj.cells true 1 [v]] : AHeap) = G2 at hS x2
  have xH2 := xG.trans x2
  have k0 := x2.cell g0
  have k1 := x2.cell g1
  have k2 := x2.cell g2
  refine aops_call_to (spMapErr_c hS (hl.ext xH2) hb) ?_
  (refine yg ?_)
  refine cond_p rfl (fun hne => ?_) (fun heq => ?_)
  · have ev : posAtL l t = ((0, 0), mapErrL l) := by unfold posAtL; rw [if_neg hne]
    rw [ev]
    (repeat (first | refine yw ?_ | ((first | apply yd | apply ye); simp (disch := first|exact zz|fail) only [go_sem, fill_none, store_b2 k2]; with_reducible rfl)))
    refine fin_l2f rfl (get_set_self k2) ⟨rfl, xH2.set (by omega) _⟩
  have hz := Decidable.not_not.1 heq
  have hok := mapErr_ok hz
  have h20 := hok.hi
  have h02 := hok.lo
  have ev : posAtL l t = posRes l t (findP (inTime t) l 0 (l.length - 1)) := by unfold posAtL; rw [if_pos hz]
  (repeat (first | refine yw ?_ | ((first | apply yd | apply ye); simp (disch := first|exact zz|fail) only [go_sem, n1_at k0]; with_reducible rfl)))
  refine aops_call_to (find_c (g := 42) (ad := ⟨H.length + 1, 0, none⟩) (p := inTime t) (hl.ext xH2) (by omega) (by omega) (fun J hJ i hi => positionAt1_c (hJ.cell k1))) ?_
  obtain ⟨o, ho⟩ : ∃ o, findP (inTime t) l 0 (l.length - 1) = o := ⟨_, rfl⟩
  rw [ho] at ev ⊢
  have hst : storeR 4 (.pointer (some ⟨G2.length, 0, none⟩)) (pieceV (findR o l).1) (G2 ++ [.cells true 0 [.int .i64 0, .int .i64 0, .int .i64 0, .int .i64 0]]) = some (undef, G2 ++ [.cells true 0 (pieceC (findR o l).1)]) := store_new4 rfl
  (repeat (first | refine yw ?_ | ((first | apply yd | apply ye); simp (disch := first|exact zz|fail) only [go_sem, hst]; with_reducible rfl)))
  have b7 : (G2 ++ [AObj.cells true 0 (pieceC (findR o l).1)])[G2.length]? = some (.cells true 0 (pieceC (findR o l).1)) := at_new
  have x3 : Ext G2 (G2 ++ [AObj.cells true 0 (pieceC (findR o l).1)]) := (Ext.refl G2).app _
  generalize (G2 ++ [AObj.cells true 0 (pieceC (findR o l).1)] : AHeap) = G3 at b7 x3
  have xH3 := xH2.trans x3
  have j1 := x3.cell k1
  have j2 := x3.cell k2
  cases o with
  | none =>
    rw [ev]
    (repeat (first | refine yw ?_ | ((first | apply yd | apply ye); simp (disch := first|exact zz|fail) only [go_sem, findR]; with_reducible rfl)))
    refine cond_t rfl ?_
    (repeat (first | refine yw ?_ | ((first | apply yd | apply ye); simp (disch := first|exact zz|fail) only [go_sem, fill_none, store_b2 j2]; with_reducible rfl)))
    refine fin_l2f rfl (get_set_self j2) ⟨rfl, xH3.set (by omega) _⟩
  | some i =>
    obtain ⟨_, f2, f3, _⟩ := findP_some ho
    have hin : (pieceOf l i).1.2 ≤ t ∧ t ≤ (pieceOf l i).2.2 := of_decide_eq_true f3
    have b7' : G3[G2.length]? = some (.cells true 0 (pieceC (pieceOf l i))) := b7
    have p1 : 0 ≤ (pieceOf l i).1.1 ∧ (pieceOf l i).1.1 ≤ 1000000 := hok.pos i (by omega)
    have p2 : 0 ≤ (pieceOf l i).2.1 ∧ (pieceOf l i).2.1 ≤ 1000000 := hok.pos (i + 1) (by omega)
    have p3 : 0 ≤ (pieceOf l i).1.2 ∧ (pieceOf l i).1.2 ≤ 1000000000000 := hok.time i (by omega)
    have p4 : 0 ≤ (pieceOf l i).2.2 ∧ (pieceOf l i).2.2 ≤ 1000000000000 := hok.time (i + 1) (by omega)
    have p5 : (pieceOf l i).1.1 < (pieceOf l i).2.1 := hok.posUp i (by omega)
    have p6 : (pieceOf l i).1.2 < (pieceOf l i).2.2 := hok.timeUp i (by omega)
    have ev2 : posRes l t (some i) = ((posLo (pieceOf l i) t, posHi (pieceOf l i) t), 0) := rfl
    rw [ev, ev2]
    have ef : (findR (some i) l) = (pieceOf l i, true) := rfl
    rw [ef]
    generalize pieceOf l i = p at *
    (refine yg ?_)
    refine cond_f rfl ?_
    obtain ⟨x, hx⟩ : ∃ x, t - p.1.2 = x := ⟨_, rfl⟩
    obtain ⟨y, hy⟩ : ∃ y, 64 * (p.2.1 - p.1.1) = y := ⟨_, rfl⟩
    obtain ⟨d, hd⟩ : ∃ d, p.2.2 - p.1.2 = d := ⟨_, rfl⟩
    have m1 : 0 ≤ x * y := Int.mul_nonneg (by omega) (by omega)
    have m2 : x * y ≤ d * 64000000 := Int.le_trans (Int.mul_le_mul_of_nonneg_right (show x ≤ d by omega) (by omega)) (Int.mul_le_mul_of_nonneg_left (by omega) (by omega))
    have hN : posN p t = x * y := by unfold posN; rw [hx, hy]
    have q1 : x * y / d ≤ 64000000 := Int.ediv_le_of_le_mul (by omega) (by rw [Int.mul_comm 64000000 d]; exact m2)
    have q0 : 0 ≤ x * y / d := Int.ediv_nonneg m1 (by omega)
    (repeat (first | refine yw ?_ | ((first | apply yd | apply ye); simp (disch := first|exact zz|fail) only [go_sem, load_at j1, load_at b7', load_piece b7', pieceC, hx, conv_iu64 (n := x) (by omega) (by omega)]; with_reducible rfl)))
    refine adraw_call (N := []) (firstD (positions_c (by omega))) ?_
    rw [List.append_nil]
    (repeat (first | refine yw ?_ | ((first | apply yd | apply ye); simp (disch := first|exact zz|fail) only [go_sem, hy, conv_iu64 (n := y) (by omega) (by omega)]; with_reducible rfl)))
    refine adraw_call (N := []) (firstD (mul64_c ⟨by omega, by omega⟩ ⟨by omega, by omega⟩)) ?_
    rw [List.append_nil]
    (repeat (first | refine yw ?_ | ((first | apply yd | apply ye); simp (disch := first|exact zz|fail) only [go_sem, load_piece b7']; with_reducible rfl)))
    refine aops_call_to (times_c (by omega)) ?_
    (repeat (first | refine yw ?_ | ((first | apply yd | apply ye); simp (disch := first|exact zz|fail) only [go_sem, hd, conv_iu64 (n := d) (by omega) (by omega)]; with_reducible rfl)))
    obtain ⟨z, hz2⟩ : ∃ z, x * y = z := ⟨_, rfl⟩
    rw [hz2] at m1 m2 q1 q0 hN ⊢
    have hd1 : z / 18446744073709551616 < d := by omega
    refine aops_call_to (div64_c (hi := z / 18446744073709551616) (lo := z % 18446744073709551616) (y := d) ⟨by omega, hd1⟩ ⟨by omega, by omega⟩ (by omega)) ?_
    have ez : z / 18446744073709551616 * 18446744073709551616 + z % 18446744073709551616 = z := by omega
    rw [ez]
    obtain ⟨q, hq⟩ : ∃ q, z / d = q := ⟨_, rfl⟩
    rw [hq] at q1 q0 ⊢
    have elo : posLo p t = 64 * p.1.1 + q := by unfold posLo; rw [hN, hd, hq]
    (repeat (first | refine yw ?_ | ((first | apply yd | apply ye); simp (disch := first|exact zz|fail) only [go_sem, load_at b7', pieceC, conv_ui64 (n := q) (by omega) (by omega)]; with_reducible rfl)))
    refine cond_p rfl (fun hr => ?_) (fun hr => ?_)
    · have ehi : posHi p t = 64 * p.1.1 + q := by unfold posHi; rw [hN, hd, if_pos hr, elo]
      rw [elo, ehi]
      (repeat (first | refine yw ?_ | ((first | apply yd | apply ye); simp (disch := first|exact zz|fail) only [go_sem, fill2i, store_b2 j2]; with_reducible rfl)))
      refine fin_l2f rfl (get_set_self j2) ⟨rfl, xH3.set (by omega) _⟩
    · have ehi : posHi p t = 64 * p.1.1 + q + 1 := by unfold posHi; rw [hN, hd, if_neg hr, elo]
      rw [elo, ehi]
      (repeat (first | refine yw ?_ | ((first | apply yd | apply ye); simp (disch := first|exact zz|fail) only [go_sem, fill2i, store_b2 j2]; with_reducible rfl)))
      refine fin_l2f rfl (get_set_self j2) ⟨rfl, xH3.set (by omega) _⟩
end
end Go.Lq


namespace Go.Lq
open Go
open Go.Proofs

section
variable {H : AHeap}
theorem timeAtP_c {p : (Int × Int) × (Int × Int)} {n : Int} (p1 : 0 ≤ p.1.1 ∧ p.1.1 ≤ 1000000) (p2 : 0 ≤ p.2.1 ∧ p.2.1 ≤ 1000000) (p3 : 0 ≤ p.1.2 ∧ p.1.2 ≤ 1000000000000) (p4 : 0 ≤ p.2.2 ∧ p.2.2 ≤ 1000000000000)
    (p5 : p.1.1 < p.2.1) (p6 : p.1.2 < p.2.2) (h1 : p.1.1 ≤ n) (h2 : n ≤ p.2.1) : ACall Go.Proofs.Tryz.prog 58 [pieceV p, .int .i64 n] H fun v H' => v = .int .i64 (timN p n) ∧ H' = H := by
  refine ACall.drop (.int _ _) ?_
  obtain ⟨m1, m2⟩ := timN_bound p1 p2 p3 p4 p5 p6 h1 h2
  (refine a58 ?_; simp only [n58, List.replicate, yq, yr, yt, yu]; first | refine q1 ?_ | refine q2 ?_ | refine q6 ?_ | refine q7 ?_ | refine qh rfl ?_ | skip)
  have g0 : (H ++ [AObj.cells true 0 (pieceC p)])[H.length]? = some (.cells true 0 (pieceC p)) := at_new
  have xG : Ext H (H ++ [AObj.cells true 0 (pieceC p)]) := (Ext.refl H).app _
  (repeat (first | refine yv ?_ | (apply yd; simp (disch := first|exact zz|fail) only [go_sem, box_piece]; with_reducible rfl)))
  generalize (H ++ [AObj.cells true 0 (pieceC p)] : AHeap) = G at g0 xG
  (repeat (first | refine yw ?_ | ((first | apply yd | apply ye); simp (disch := first|exact zz|fail) only [go_sem, load_at g0, load_piece g0, pieceC]; with_reducible rfl)))
  refine adraw_call (N := []) (firstD (positions_c ⟨by omega, by omega⟩)) ?_
  rw [List.append_nil]
  (repeat (first | refine yw ?_ | ((first | apply yd | apply ye); simp (disch := first|exact zz|fail) only [go_sem, load_piece g0]; with_reducible rfl)))
  refine adraw_call (N := []) (firstD (times_c ⟨by omega, by omega⟩)) ?_
  rw [List.append_nil]
  (repeat (first | refine yw ?_ | ((first | apply yd | apply ye); simp (disch := first|exact zz|fail) only [go_sem, load_at g0, pieceC]; with_reducible rfl)))
  exact fin_1 ⟨rfl, xG⟩
end
end Go.Lq


namespace Go.Lq
open Go
open Go.Proofs

theorem store_all {H : AHeap} {id e n : Nat} {us vs : List Value} (h : H[id]? = some (.cells true e vs)) (hl : us.length = vs.length) (ha : us.all isAtom = true) (hn : n = us.length) :
    storeR n (.pointer (some ⟨id, 0, none⟩)) (.agg ⟨us⟩) H = some (undef, H.set id (.cells true e us)) := by
  subst hn
  have e1 : (Value.agg ⟨us⟩).cells = ⟨us⟩ := rfl
  have e2 : setCells vs 0 us = us := by
    unfold setCells
    simp [hl]
  simp only [storeR, e1, List.size_toArray, storeAt, h, ha, e2]
  simp [hl]
section
variable {H : AHeap} {kind deg num den step : Int} {l : List (Int × Int)} {v : Value}
theorem few_c (hl : Pairs H l v) : ACall Go.Proofs.Tryz.prog 6 [.agg ⟨[v]⟩] H fun w H' => w = .bool (decide (l.length ≤ 22)) ∧ H' = H := by
  refine ACall.drop (.bool _) ?_
  (refine a6 ?_; simp only [n6, List.replicate, yq, yr, yt, yu]; first | refine q1 ?_ | refine q2 ?_ | refine q6 ?_ | refine q7 ?_ | refine qh rfl ?_ | skip)
  have g0 : (H ++ [AObj.cells true 0 [v]])[H.length]? = some (.cells true 0 [v]) := at_new
  have xG : Ext H (H ++ [AObj.cells true 0 [v]]) := (Ext.refl H).app _
  (repeat (first | refine yv ?_ | (apply yd; simp (disch := first|exact zz|fail) only [go_sem, hl.box1]; with_reducible rfl)))
  generalize (H ++ [AObj.cells true 0 [v]] : AHeap) = G at g0 xG
  have hl1 := hl.ext xG
  (repeat (first | refine yw ?_ | ((first | apply yd | apply ye); simp (disch := first|exact zz|fail) only [go_sem, hl1.len, hl1.idx, hl1.load, load_at g0]; with_reducible rfl)))
  have e1 : decide ((l.length : Int) ≤ 22) = decide (l.length ≤ 22) := by simp; omega
  exact fin_1 ⟨by rw [← e1]; rfl, xG⟩
theorem copyMap_c (hl : Pairs H l v) (hb : l.length ≤ 1000000) : ACall Go.Proofs.Tryz.prog 8 [.agg ⟨[v]⟩] H fun w H' =>
    w = .agg ⟨[.slice (some ⟨H.length, 0, none⟩) l.length l.length]⟩ ∧ H' = H ++ [.cells true 2 (flatP l)] := by
  refine ACall.tidyE (f := fun s => .agg ⟨[s]⟩) (n := l.length) (sz := 2) wraps_agg1 (closed_flatP l) ?_
  (refine a8 ?_; simp only [n8, List.replicate, yq, yr, yt, yu]; first | refine q1 ?_ | refine q2 ?_ | refine q6 ?_ | refine q7 ?_ | refine qh rfl ?_ | skip)
  (repeat (first | refine yv ?_ | (apply yd; simp (disch := first|exact zz|fail) only [go_sem, hl.box1]; with_reducible rfl)))
  (simp only [List.length_append, List.length_cons, List.length_nil, Nat.zero_add, Nat.add_assoc, Nat.reduceAdd])
  obtain ⟨G, hG⟩ : ∃ G, G = H ++ [AObj.cells true 0 [v]] ++ [AObj.cells true 0 [.slice none 0 0]] := ⟨_, rfl⟩
  have g0 : G[H.length]? = some (.cells true 0 [v]) := by rw [hG]; exact at_app at_new
  have g1 : G[H.length + 1]? = some (.cells true 0 [.slice none 0 0]) := by rw [hG]; simp
  have xG : Ext H G := by rw [hG]; exact ((Ext.refl H).app _).app _
  have lG : G.length = H.length + 2 := by rw [hG]; simp
  rw [← hG]
  clear hG
  obtain ⟨s, H2, ha, hx2, id, rfl, hid, hc2⟩ := append_copy (bytes := 16) (hl.ext xG) (isAtom_flatP l) (roomOk_of (by omega) (by omega))
  have h1 := hx2.cell g1
  have hms : mkSliceL 2 0 (some []) G = some (.slice (some ⟨G.length, 0, none⟩) 0 0, G ++ [.cells true 2 []]) := rfl
  have k0 := at_app (N := [AObj.cells true 2 []]) g0
  have hf : fillA [.slice none 0 0] [(0, 1, .slice (some ⟨id, 0, none⟩) l.length l.length)] = some [.slice (some ⟨id, 0, none⟩) l.length l.length] := rfl
  have hst := store_all (n := 1) (us := [.slice (some ⟨id, 0, none⟩) l.length l.length]) h1 rfl rfl rfl
  (repeat (first | refine yw ?_ | ((first | apply yd | apply ye); simp (disch := first|exact zz|fail) only [go_sem, hms, load_at k0, ha, hf, hst]; with_reducible rfl)))
  refine fin_l1 (u := .agg ⟨[.slice (some ⟨id, 0, none⟩) l.length l.length]⟩) (loadN_at (k := 0) (get_set_self h1) (by simp)) ?_
  refine ⟨_, id, rfl, (xG.trans hx2).set (by omega) _, rfl, by omega, ?_⟩
  rw [List.getElem?_set_ne (by omega)]; exact hc2
end
end Go.Lq

namespace Go.Lq

def pieceP (l : List (Int × Int)) (n : Int) : (Int × Int) × (Int × Int) := pieceOf l (atPos l n 0 (l.length - 2))
structure PieceOk (p : (Int × Int) × (Int × Int)) : Prop where
  pos : p.1.1 < p.2.1
  time : p.1.2 < p.2.2
theorem MapOk.piece {l : List (Int × Int)} (h : MapOk l) {i : Nat} (hi : i + 1 < l.length) : PieceOk (pieceOf l i) := ⟨h.posUp i hi, h.timeUp i hi⟩
theorem timHi_eq {p : (Int × Int) × (Int × Int)} {n : Int} (h : p.1.1 < p.2.1) : timHi p n = p.1.2 + -(-((p.2.2 - p.1.2) * (n - p.1.1)) / (p.2.1 - p.1.1)) := by
  unfold timHi timN
  have e : -(p.1.2 * (p.2.1 - p.1.1) + (p.2.2 - p.1.2) * (n - p.1.1)) = -((p.2.2 - p.1.2) * (n - p.1.1)) + (p.2.1 - p.1.1) * (-p.1.2) := by
    rw [Int.mul_neg, Int.mul_comm p.1.2]; omega
  rw [e, Int.add_mul_ediv_left _ _ (show p.2.1 - p.1.1 ≠ 0 by omega)]
  omega
theorem timHi_first {p : (Int × Int) × (Int × Int)} (h : p.1.1 < p.2.1) : timHi p p.1.1 = p.1.2 := by
  rw [timHi_eq h, Int.sub_self, Int.mul_zero, Int.neg_zero, Int.zero_ediv]; omega
theorem timHi_last {p : (Int × Int) × (Int × Int)} (h : p.1.1 < p.2.1) : timHi p p.2.1 = p.2.2 := by
  rw [timHi_eq h, ← Int.neg_mul, Int.mul_ediv_cancel _ (show p.2.1 - p.1.1 ≠ 0 by omega)]; omega
theorem MapOk.anyP {l : List (Int × Int)} (h : MapOk l) {f : (Int × Int) × (Int × Int) → Int → Int} (h1 : ∀ i, i + 1 < l.length → f (pieceOf l i) (l.getD i (0, 0)).1 = (l.getD i (0, 0)).2)
    (h2 : ∀ i, i + 1 < l.length → f (pieceOf l i) (l.getD (i + 1) (0, 0)).1 = (l.getD (i + 1) (0, 0)).2) {n : Int} {i : Nat} (hi : i + 1 < l.length) (ha : (l.getD i (0, 0)).1 ≤ n) (hb : n ≤ (l.getD (i + 1) (0, 0)).1) :
    f (pieceP l n) n = f (pieceOf l i) n := by
  have hlo := h.lo
  have h0 : (l.getD 0 (0, 0)).1 ≤ n := Int.le_trans (h.posLe (Nat.zero_le i) (by omega)) ha
  have hE : n ≤ (l.getD (l.length - 1) (0, 0)).1 := Int.le_trans hb (h.posLe (show i + 1 ≤ l.length - 1 by omega) (by omega))
  obtain ⟨a1, a2⟩ := atPos_in (l := l) (t := n) (k := l.length - 2) (i := 0) (by omega) h0
  have a3 := atPos_up (l := l) (t := n) (k := l.length - 2) (i := 0) (by omega) hE
  unfold pieceP
  generalize atPos l n 0 (l.length - 2) = j at *
  by_cases e : i = j
  · rw [e]
  by_cases hij : i < j
  · have c1 := h.posLe (show i + 1 ≤ j by omega) (by omega)
    have e1 : i + 1 = j := by
      refine Decidable.byContradiction fun hn => ?_
      have := h.posInj (show i + 1 < j by omega) (by omega)
      omega
    subst e1
    have e2 : n = (l.getD (i + 1) (0, 0)).1 := by omega
    rw [e2, h1 (i + 1) a1, h2 i hi]
  · have c1 := h.posLe (show j + 1 ≤ i by omega) (by omega)
    have e1 : j + 1 = i := by
      refine Decidable.byContradiction fun hn => ?_
      have := h.posInj (show j + 1 < i by omega) (by omega)
      omega
    subst e1
    have e2 : n = (l.getD (j + 1) (0, 0)).1 := by omega
    rw [e2, h2 j a1, h1 (j + 1) hi]
def mapTimLo (l : List (Int × Int)) (n : Int) : Int := timLo (pieceP l n) n
def mapTimHi (l : List (Int × Int)) (n : Int) : Int := timHi (pieceP l n) n
section
variable {l : List (Int × Int)} (h : MapOk l)
include h
theorem timLo_of {n : Int} {i : Nat} (hi : i + 1 < l.length) (ha : (l.getD i (0, 0)).1 ≤ n) (hb : n ≤ (l.getD (i + 1) (0, 0)).1) : mapTimLo l n = timLo (pieceOf l i) n :=
  h.anyP (fun i hi => timLo_first (p := pieceOf l i) (h.posUp i hi)) (fun i hi => timLo_last (p := pieceOf l i) (h.posUp i hi)) hi ha hb
theorem timHi_of {n : Int} {i : Nat} (hi : i + 1 < l.length) (ha : (l.getD i (0, 0)).1 ≤ n) (hb : n ≤ (l.getD (i + 1) (0, 0)).1) : mapTimHi l n = timHi (pieceOf l i) n :=
  h.anyP (fun i hi => timHi_first (p := pieceOf l i) (h.posUp i hi)) (fun i hi => timHi_last (p := pieceOf l i) (h.posUp i hi)) hi ha hb
end
end Go.Lq

namespace Go.Lq

theorem atP_ge {l : List (Int × Int)} {t : Int} : ∀ {k i : Nat}, i ≤ atPos l t i k
  | 0, i => Nat.le_refl _
  | k + 1, i => by
    rw [atPos_succ]
    split
    · exact Nat.le_trans (Nat.le_succ i) atP_ge
    · exact Nat.le_refl _
theorem atP_mono {l : List (Int × Int)} {t u : Int} (h : t ≤ u) : ∀ {k i : Nat}, atPos l t i k ≤ atPos l u i k
  | 0, i => Nat.le_refl _
  | k + 1, i => by
    rw [atPos_succ, atPos_succ]
    by_cases h1 : (l.getD (i + 1) (0, 0)).1 < t
    · rw [if_pos h1, if_pos (by omega)]; exact atP_mono h
    · rw [if_neg h1]
      split
      · exact Nat.le_trans (Nat.le_succ i) atP_ge
      · exact Nat.le_refl _
section
variable {p : (Int × Int) × (Int × Int)} (h : PieceOk p)
include h
end
section
variable {l : List (Int × Int)} (h : MapOk l)
include h
end
end Go.Lq

namespace Go.Lq

abbrev Mark := Int × Int × Int
def byR (L : Int × Int) (x : Mark) (q : Int) : Int × Int := (x.2.1 + min (L.1 * (q - x.1)) (L.2 * (q - x.1)), x.2.2 + max (L.1 * (q - x.1)) (L.2 * (q - x.1)))
theorem byR_up {L : Int × Int} {x : Mark} {q : Int} (hL : L.1 ≤ L.2) (h : 0 ≤ q - x.1) : byR L x q = (x.2.1 + L.1 * (q - x.1), x.2.2 + L.2 * (q - x.1)) := by
  have := Int.mul_le_mul_of_nonneg_right hL h
  unfold byR
  rw [Int.min_eq_left this, Int.max_eq_right this]
theorem byR_down {L : Int × Int} {x : Mark} {q : Int} (hL : L.1 ≤ L.2) (h : q - x.1 < 0) : byR L x q = (x.2.1 - L.2 * (x.1 - q), x.2.2 - L.1 * (x.1 - q)) := by
  have h1 := Int.mul_le_mul_of_nonneg_right hL (show 0 ≤ x.1 - q by omega)
  have e1 : L.1 * (q - x.1) = -(L.1 * (x.1 - q)) := by rw [← Int.mul_neg]; congr 1; omega
  have e2 : L.2 * (q - x.1) = -(L.2 * (x.1 - q)) := by rw [← Int.mul_neg]; congr 1; omega
  unfold byR
  rw [e1, e2]
  refine Prod.ext ?_ ?_
  · show x.2.1 + min _ _ = x.2.1 - _; omega
  · show x.2.2 + max _ _ = x.2.2 - _; omega
def clashB (L : Int × Int) (a b : Mark) : Bool := decide ((byR L a b.1).2 < b.2.1 ∨ b.2.2 < (byR L a b.1).1)
def markE (x : Mark) : Int := firstErr [(if (0 ≤ x.1 ∧ x.1 ≤ 1000000) ∧ (0 ≤ x.2.1 ∧ x.2.1 ≤ 1000000000000) ∧ (0 ≤ x.2.2 ∧ x.2.2 ≤ 1000000000000) then 0 else 2), (if x.2.1 ≤ x.2.2 then 0 else 9)]
def markO (last : Int) (x : Mark) : Int := firstErr [markE x, (if last < x.1 then 0 else 9)]
def ckMarks (last : Int) (i : Nat) : List Mark → Int × Int
  | [] => (0, 0)
  | x :: t => if markO last x ≠ 0 then ((i : Int), markO last x) else ckMarks x.1 (i + 1) t
def limE (L : Int × Int) (n : Nat) : Int := firstErr [(if (1 ≤ L.1 ∧ L.1 ≤ 100000) ∧ (1 ≤ L.2 ∧ L.2 ≤ 100000) then 0 else 2), (if L.1 ≤ L.2 then 0 else 9), (if (n : Int) ≤ 12 then 0 else 8)]
def ckEv (L : Int × Int) (M : List Mark) : Int × Int := if limE L M.length ≠ 0 then (0, limE L M.length) else ckMarks (-1) 0 M
def evErrL (L : Int × Int) (M : List Mark) : Int := (ckEv L M).2
def lastAt (M : List Mark) (i : Nat) : Int := if i = 0 then -1 else (M.getD (i - 1) (0, 0, 0)).1
theorem lastAt_succ {M : List Mark} {i : Nat} : lastAt M (i + 1) = (M.getD i (0, 0, 0)).1 := by unfold lastAt; rw [if_neg (by omega), Nat.add_sub_cancel]
theorem drop_mark {M : List Mark} {i : Nat} (h : i < M.length) : M.drop i = M.getD i (0, 0, 0) :: M.drop (i + 1) := by
  rw [List.drop_eq_getElem_cons h, List.getD_eq_getElem?_getD, List.getElem?_eq_getElem h]; rfl
theorem ckMarks_at {M : List Mark} {i : Nat} (h : i < M.length) : ckMarks (lastAt M i) i (M.drop i) =
    if markO (lastAt M i) (M.getD i (0, 0, 0)) ≠ 0 then ((i : Int), markO (lastAt M i) (M.getD i (0, 0, 0))) else ckMarks (lastAt M (i + 1)) (i + 1) (M.drop (i + 1)) := by
  rw [drop_mark h, lastAt_succ]; rfl
theorem ckMarks_end {p : Int} {M : List Mark} {i : Nat} : ckMarks p i (M.drop M.length) = (0, 0) := by rw [List.drop_length]; rfl
structure EvOk (L : Int × Int) (M : List Mark) : Prop where
  lo : 1 ≤ L.1 ∧ L.1 ≤ 100000
  hi : 1 ≤ L.2 ∧ L.2 ≤ 100000
  le : L.1 ≤ L.2
  len : M.length ≤ 12
  pos : ∀ i, i < M.length → 0 ≤ (M.getD i (0, 0, 0)).1 ∧ (M.getD i (0, 0, 0)).1 ≤ 1000000
  t1 : ∀ i, i < M.length → 0 ≤ (M.getD i (0, 0, 0)).2.1 ∧ (M.getD i (0, 0, 0)).2.1 ≤ 1000000000000
  t2 : ∀ i, i < M.length → 0 ≤ (M.getD i (0, 0, 0)).2.2 ∧ (M.getD i (0, 0, 0)).2.2 ≤ 1000000000000
  lohi : ∀ i, i < M.length → (M.getD i (0, 0, 0)).2.1 ≤ (M.getD i (0, 0, 0)).2.2
  up : ∀ i, i + 1 < M.length → (M.getD i (0, 0, 0)).1 < (M.getD (i + 1) (0, 0, 0)).1
theorem two_err {p q : Prop} [Decidable p] [Decidable q] {a b : Int} (ha : a ≠ 0) (hb : b ≠ 0) (h : firstErr [(if p then 0 else a), (if q then 0 else b)] = 0) : p ∧ q := by
  by_cases hp : p
  · by_cases hq : q
    · exact ⟨hp, hq⟩
    · rw [if_pos hp, firstErr_z, if_neg hq, firstErr_e hb] at h; exact absurd h hb
  · rw [if_neg hp, firstErr_e ha] at h; exact absurd h ha
theorem markO_ok {last : Int} {x : Mark} (h : markO last x = 0) : ((0 ≤ x.1 ∧ x.1 ≤ 1000000) ∧ (0 ≤ x.2.1 ∧ x.2.1 ≤ 1000000000000) ∧ (0 ≤ x.2.2 ∧ x.2.2 ≤ 1000000000000)) ∧ x.2.1 ≤ x.2.2 ∧ last < x.1 := by
  unfold markO at h
  by_cases h1 : markE x = 0
  · rw [h1, firstErr_z] at h
    obtain ⟨a, b⟩ := two_err (by decide) (by decide) h1
    refine ⟨a, b, ?_⟩
    refine Decidable.byContradiction fun hn => ?_
    rw [if_neg hn, firstErr_e (by decide)] at h; cases h
  · rw [firstErr_e h1] at h; exact absurd h h1
theorem ckMarks_ok {M : List Mark} : ∀ {k i : Nat}, i + k = M.length → (ckMarks (lastAt M i) i (M.drop i)).2 = 0 → ∀ j, i ≤ j → j < M.length → markO (lastAt M j) (M.getD j (0, 0, 0)) = 0
  | 0, i, hk, _, j, h1, h2 => by omega
  | k + 1, i, hk, h, j, h1, h2 => by
    rw [ckMarks_at (by omega)] at h
    by_cases he : markO (lastAt M i) (M.getD i (0, 0, 0)) = 0
    · rw [if_neg (by rw [he]; decide)] at h
      by_cases hj : j = i
      · subst hj; exact he
      · exact ckMarks_ok (k := k) (i := i + 1) (by omega) h j (by omega) h2
    · rw [if_pos he] at h; exact absurd h he
theorem evErr_ok {L : Int × Int} {M : List Mark} (h : evErrL L M = 0) : EvOk L M := by
  unfold evErrL ckEv at h
  by_cases h0 : limE L M.length = 0
  · rw [if_neg (by rw [h0]; decide)] at h
    have hk := fun j hj => markO_ok (ckMarks_ok (M := M) (k := M.length) (i := 0) (by omega) h j (Nat.zero_le _) hj)
    unfold limE at h0
    by_cases a1 : (1 ≤ L.1 ∧ L.1 ≤ 100000) ∧ (1 ≤ L.2 ∧ L.2 ≤ 100000)
    · rw [if_pos a1, firstErr_z] at h0
      obtain ⟨a2, a3⟩ := two_err (by decide) (by decide) h0
      refine ⟨a1.1, a1.2, a2, by omega, fun i hi => (hk i hi).1.1, fun i hi => (hk i hi).1.2.1, fun i hi => (hk i hi).1.2.2, fun i hi => (hk i hi).2.1, fun i hi => ?_⟩
      have := (hk (i + 1) hi).2.2
      rwa [lastAt_succ] at this
    · rw [if_neg a1, firstErr_e (by decide)] at h0; cases h0
  · rw [if_pos h0] at h; exact absurd h h0
def clashRow (L : Int × Int) (M : List Mark) (i : Nat) (k : Nat) : Nat → Option (Nat × Nat)
  | 0 => none
  | n + 1 => if clashB L (M.getD i (0, 0, 0)) (M.getD k (0, 0, 0)) = true then some (i, k) else clashRow L M i (k + 1) n
def clashFrom (L : Int × Int) (M : List Mark) (i : Nat) : Nat → Option (Nat × Nat)
  | 0 => none
  | n + 1 => match clashRow L M i (i + 1) n with | some r => some r | none => clashFrom L M (i + 1) n
def clashL (L : Int × Int) (M : List Mark) : Option (Nat × Nat) := clashFrom L M 0 M.length
def encTo (L : Int × Int) (M : List Mark) (q : Int) : Nat → Int × Int
  | 0 => (0, 0)
  | 1 => byR L (M.getD 0 (0, 0, 0)) q
  | i + 2 => (max (encTo L M q (i + 1)).1 (byR L (M.getD (i + 1) (0, 0, 0)) q).1, min (encTo L M q (i + 1)).2 (byR L (M.getD (i + 1) (0, 0, 0)) q).2)
theorem byR_bound {L : Int × Int} {M : List Mark} (h : EvOk L M) {i : Nat} (hi : i < M.length) {q : Int} (hq : 0 ≤ q ∧ q ≤ 1000000) :
    (-100000000000 ≤ L.1 * (q - (M.getD i (0, 0, 0)).1) ∧ L.1 * (q - (M.getD i (0, 0, 0)).1) ≤ 100000000000) ∧ (-100000000000 ≤ L.2 * (q - (M.getD i (0, 0, 0)).1) ∧ L.2 * (q - (M.getD i (0, 0, 0)).1) ≤ 100000000000) := by
  have h1 := h.lo
  have h2 := h.hi
  have h3 := h.pos i hi
  have m1 := mul_abs (x := L.1) (y := q - (M.getD i (0, 0, 0)).1) (a := 100000) (b := 1000000) ⟨by omega, by omega⟩ ⟨by omega, by omega⟩
  have m2 := mul_abs (x := L.2) (y := q - (M.getD i (0, 0, 0)).1) (a := 100000) (b := 1000000) ⟨by omega, by omega⟩ ⟨by omega, by omega⟩
  omega
theorem encTo_bound {L : Int × Int} {M : List Mark} (h : EvOk L M) {q : Int} (hq : 0 ≤ q ∧ q ≤ 1000000) : ∀ {i : Nat}, i ≤ M.length →
    (-2000000000000 ≤ (encTo L M q i).1 ∧ (encTo L M q i).1 ≤ 2000000000000) ∧ (-2000000000000 ≤ (encTo L M q i).2 ∧ (encTo L M q i).2 ≤ 2000000000000)
  | 0, _ => by show (_ ≤ (0 : Int) ∧ (0 : Int) ≤ _) ∧ (_ ≤ (0 : Int) ∧ (0 : Int) ≤ _); omega
  | 1, hi => by
    have b := byR_bound h (i := 0) (by omega) hq
    have c := h.t1 0 (by omega)
    have d := h.t2 0 (by omega)
    show (_ ≤ (byR L (M.getD 0 (0, 0, 0)) q).1 ∧ (byR L (M.getD 0 (0, 0, 0)) q).1 ≤ _) ∧ (_ ≤ (byR L (M.getD 0 (0, 0, 0)) q).2 ∧ (byR L (M.getD 0 (0, 0, 0)) q).2 ≤ _)
    unfold byR
    dsimp only
    omega
  | i + 2, hi => by
    have ih := encTo_bound h hq (i := i + 1) (by omega)
    have b := byR_bound h (i := i + 1) (by omega) hq
    have c := h.t1 (i + 1) (by omega)
    have d := h.t2 (i + 1) (by omega)
    unfold encTo byR
    dsimp only
    omega
end Go.Lq

namespace Go.Lq

def atMost (p : (Int × Int) × (Int × Int)) (n c : Int) : Prop := timN p n ≤ c * (p.2.1 - p.1.1)
def atLeast (p : (Int × Int) × (Int × Int)) (n c : Int) : Prop := c * (p.2.1 - p.1.1) ≤ timN p n
def RateOk (L : Int × Int) (l : List (Int × Int)) : Prop := ∀ i, i + 1 < l.length → L.1 * ((l.getD (i + 1) (0, 0)).1 - (l.getD i (0, 0)).1) ≤ (l.getD (i + 1) (0, 0)).2 - (l.getD i (0, 0)).2 ∧ (l.getD (i + 1) (0, 0)).2 - (l.getD i (0, 0)).2 ≤ L.2 * ((l.getD (i + 1) (0, 0)).1 - (l.getD i (0, 0)).1)
theorem timN_diff {p : (Int × Int) × (Int × Int)} {n m : Int} : timN p m = timN p n + (p.2.2 - p.1.2) * (m - n) := by
  unfold timN
  have : (p.2.2 - p.1.2) * (m - p.1.1) = (p.2.2 - p.1.2) * (n - p.1.1) + (p.2.2 - p.1.2) * (m - n) := by rw [← Int.mul_add]; exact congrArg ((p.2.2 - p.1.2) * ·) (by omega)
  omega
theorem timN_first {p : (Int × Int) × (Int × Int)} : timN p p.1.1 = p.1.2 * (p.2.1 - p.1.1) := by unfold timN; rw [Int.sub_self, Int.mul_zero]; omega
theorem timN_last {p : (Int × Int) × (Int × Int)} : timN p p.2.1 = p.2.2 * (p.2.1 - p.1.1) := by unfold timN; rw [← Int.add_mul]; exact congrArg (· * (p.2.1 - p.1.1)) (by omega)
section
variable {p : (Int × Int) × (Int × Int)} {a b n m c : Int} (hr : a * (p.2.1 - p.1.1) ≤ p.2.2 - p.1.2 ∧ p.2.2 - p.1.2 ≤ b * (p.2.1 - p.1.1)) (hnm : n ≤ m)
include hr hnm
theorem most_up (h : atMost p n c) : atMost p m (c + b * (m - n)) := by
  have h1 := Int.mul_le_mul_of_nonneg_right hr.2 (show 0 ≤ m - n by omega)
  have e : b * (p.2.1 - p.1.1) * (m - n) = b * (m - n) * (p.2.1 - p.1.1) := Int.mul_right_comm _ _ _
  unfold atMost at *
  rw [timN_diff (n := n), Int.add_mul]
  omega
theorem least_up (h : atLeast p n c) : atLeast p m (c + a * (m - n)) := by
  have h1 := Int.mul_le_mul_of_nonneg_right hr.1 (show 0 ≤ m - n by omega)
  have e : a * (p.2.1 - p.1.1) * (m - n) = a * (m - n) * (p.2.1 - p.1.1) := Int.mul_right_comm _ _ _
  unfold atLeast at *
  rw [timN_diff (n := n), Int.add_mul]
  omega
theorem most_down (h : atMost p m c) : atMost p n (c - a * (m - n)) := by
  have h1 := Int.mul_le_mul_of_nonneg_right hr.1 (show 0 ≤ m - n by omega)
  have e : a * (p.2.1 - p.1.1) * (m - n) = a * (m - n) * (p.2.1 - p.1.1) := Int.mul_right_comm _ _ _
  unfold atMost at *
  rw [timN_diff (n := n)] at h
  rw [Int.sub_mul]
  omega
theorem least_down (h : atLeast p m c) : atLeast p n (c - b * (m - n)) := by
  have h1 := Int.mul_le_mul_of_nonneg_right hr.2 (show 0 ≤ m - n by omega)
  have e : b * (p.2.1 - p.1.1) * (m - n) = b * (m - n) * (p.2.1 - p.1.1) := Int.mul_right_comm _ _ _
  unfold atLeast at *
  rw [timN_diff (n := n)] at h
  rw [Int.sub_mul]
  omega
end
theorem most_node {p : (Int × Int) × (Int × Int)} (h : p.1.1 < p.2.1) {c : Int} : (atMost p p.1.1 c ↔ p.1.2 ≤ c) ∧ (atMost p p.2.1 c ↔ p.2.2 ≤ c) := by
  have hD : 0 < p.2.1 - p.1.1 := by omega
  unfold atMost
  rw [timN_first, timN_last]
  exact ⟨⟨fun h => Int.le_of_mul_le_mul_right h hD, fun h => Int.mul_le_mul_of_nonneg_right h (by omega)⟩, ⟨fun h => Int.le_of_mul_le_mul_right h hD, fun h => Int.mul_le_mul_of_nonneg_right h (by omega)⟩⟩
theorem least_node {p : (Int × Int) × (Int × Int)} (h : p.1.1 < p.2.1) {c : Int} : (atLeast p p.1.1 c ↔ c ≤ p.1.2) ∧ (atLeast p p.2.1 c ↔ c ≤ p.2.2) := by
  have hD : 0 < p.2.1 - p.1.1 := by omega
  unfold atLeast
  rw [timN_first, timN_last]
  exact ⟨⟨fun h => Int.le_of_mul_le_mul_right h hD, fun h => Int.mul_le_mul_of_nonneg_right h (by omega)⟩, ⟨fun h => Int.le_of_mul_le_mul_right h hD, fun h => Int.mul_le_mul_of_nonneg_right h (by omega)⟩⟩
section
variable {L : Int × Int} {l : List (Int × Int)} (h : MapOk l) (hR : RateOk L l)
include hR
theorem nodes_rate : ∀ {k i : Nat}, i + k < l.length → L.1 * ((l.getD (i + k) (0, 0)).1 - (l.getD i (0, 0)).1) ≤ (l.getD (i + k) (0, 0)).2 - (l.getD i (0, 0)).2 ∧ (l.getD (i + k) (0, 0)).2 - (l.getD i (0, 0)).2 ≤ L.2 * ((l.getD (i + k) (0, 0)).1 - (l.getD i (0, 0)).1)
  | 0, i, _ => by simp
  | k + 1, i, hk => by
    have ih := nodes_rate (k := k) (i := i) (by omega)
    have st := hR (i + k) (by omega)
    rw [show i + k + 1 = i + (k + 1) by omega] at st
    generalize (l.getD (i + k) (0, 0)).1 = p1 at *
    generalize (l.getD (i + (k + 1)) (0, 0)).1 = p2 at *
    generalize (l.getD i (0, 0)).1 = p0 at *
    have e1 : L.1 * (p2 - p0) = L.1 * (p1 - p0) + L.1 * (p2 - p1) := by rw [← Int.mul_add]; exact congrArg (L.1 * ·) (by omega)
    have e2 : L.2 * (p2 - p0) = L.2 * (p1 - p0) + L.2 * (p2 - p1) := by rw [← Int.mul_add]; exact congrArg (L.2 * ·) (by omega)
    omega
include h
theorem far_up {i j : Nat} (hij : i ≤ j) (hj : j + 1 < l.length) {n m : Int} (h1 : (l.getD i (0, 0)).1 ≤ n ∧ n ≤ (l.getD (i + 1) (0, 0)).1) (h2 : (l.getD j (0, 0)).1 ≤ m ∧ m ≤ (l.getD (j + 1) (0, 0)).1) (hnm : n ≤ m) {c : Int} :
    (atMost (pieceOf l i) n c → atMost (pieceOf l j) m (c + L.2 * (m - n))) ∧ (atLeast (pieceOf l i) n c → atLeast (pieceOf l j) m (c + L.1 * (m - n))) := by
  have ri := hR i (by omega)
  have rj := hR j hj
  by_cases e : i = j
  · subst e; exact ⟨most_up (p := pieceOf l i) ri hnm, least_up (p := pieceOf l i) ri hnm⟩
  have pi := h.posUp i (by omega)
  have pj := h.posUp j hj
  have nr := nodes_rate hR (k := j - (i + 1)) (i := i + 1) (by omega)
  rw [show i + 1 + (j - (i + 1)) = j by omega] at nr
  have sp : ∀ r : Int, r * (m - n) = r * ((l.getD (i + 1) (0, 0)).1 - n) + r * ((l.getD j (0, 0)).1 - (l.getD (i + 1) (0, 0)).1) + r * (m - (l.getD j (0, 0)).1) := fun r => by
    rw [← Int.mul_add, ← Int.mul_add]; exact congrArg (r * ·) (by omega)
  constructor
  · intro hm
    have a1 := most_up (p := pieceOf l i) ri h1.2 hm
    have a2 := ((most_node (p := pieceOf l i) pi).2).1 a1
    have a3 : (pieceOf l i).2.2 = (l.getD (i + 1) (0, 0)).2 := rfl
    rw [a3] at a2
    have a4 := ((most_node (p := pieceOf l j) pj (c := c + L.2 * ((l.getD (i + 1) (0, 0)).1 - n) + L.2 * ((l.getD j (0, 0)).1 - (l.getD (i + 1) (0, 0)).1))).1).2 (by show (l.getD j (0, 0)).2 ≤ _; omega)
    have a5 := most_up (p := pieceOf l j) rj h2.1 a4
    rw [sp L.2]
    rwa [show c + (L.2 * ((l.getD (i + 1) (0, 0)).1 - n) + L.2 * ((l.getD j (0, 0)).1 - (l.getD (i + 1) (0, 0)).1) + L.2 * (m - (l.getD j (0, 0)).1)) = c + L.2 * ((l.getD (i + 1) (0, 0)).1 - n) + L.2 * ((l.getD j (0, 0)).1 - (l.getD (i + 1) (0, 0)).1) + L.2 * (m - (l.getD j (0, 0)).1) by omega]
  · intro hm
    have a1 := least_up (p := pieceOf l i) ri h1.2 hm
    have a2 := ((least_node (p := pieceOf l i) pi).2).1 a1
    have a3 : (pieceOf l i).2.2 = (l.getD (i + 1) (0, 0)).2 := rfl
    rw [a3] at a2
    have a4 := ((least_node (p := pieceOf l j) pj (c := c + L.1 * ((l.getD (i + 1) (0, 0)).1 - n) + L.1 * ((l.getD j (0, 0)).1 - (l.getD (i + 1) (0, 0)).1))).1).2 (by show _ ≤ (l.getD j (0, 0)).2; omega)
    have a5 := least_up (p := pieceOf l j) rj h2.1 a4
    rw [sp L.1]
    rwa [show c + (L.1 * ((l.getD (i + 1) (0, 0)).1 - n) + L.1 * ((l.getD j (0, 0)).1 - (l.getD (i + 1) (0, 0)).1) + L.1 * (m - (l.getD j (0, 0)).1)) = c + L.1 * ((l.getD (i + 1) (0, 0)).1 - n) + L.1 * ((l.getD j (0, 0)).1 - (l.getD (i + 1) (0, 0)).1) + L.1 * (m - (l.getD j (0, 0)).1) by omega]
theorem far_down {i j : Nat} (hij : i ≤ j) (hj : j + 1 < l.length) {n m : Int} (h1 : (l.getD i (0, 0)).1 ≤ n ∧ n ≤ (l.getD (i + 1) (0, 0)).1) (h2 : (l.getD j (0, 0)).1 ≤ m ∧ m ≤ (l.getD (j + 1) (0, 0)).1) (hnm : n ≤ m) {c : Int} :
    (atMost (pieceOf l j) m c → atMost (pieceOf l i) n (c - L.1 * (m - n))) ∧ (atLeast (pieceOf l j) m c → atLeast (pieceOf l i) n (c - L.2 * (m - n))) := by
  have ri := hR i (by omega)
  have rj := hR j hj
  by_cases e : i = j
  · subst e; exact ⟨most_down (p := pieceOf l i) ri hnm, least_down (p := pieceOf l i) ri hnm⟩
  have pi := h.posUp i (by omega)
  have pj := h.posUp j hj
  have nr := nodes_rate hR (k := j - (i + 1)) (i := i + 1) (by omega)
  rw [show i + 1 + (j - (i + 1)) = j by omega] at nr
  have sp : ∀ r : Int, r * (m - n) = r * ((l.getD (i + 1) (0, 0)).1 - n) + r * ((l.getD j (0, 0)).1 - (l.getD (i + 1) (0, 0)).1) + r * (m - (l.getD j (0, 0)).1) := fun r => by
    rw [← Int.mul_add, ← Int.mul_add]; exact congrArg (r * ·) (by omega)
  constructor
  · intro hm
    have a1 := most_down (p := pieceOf l j) rj h2.1 hm
    have a2 := ((most_node (p := pieceOf l j) pj).1).1 a1
    have a3 : (pieceOf l j).1.2 = (l.getD j (0, 0)).2 := rfl
    rw [a3] at a2
    have a4 := ((most_node (p := pieceOf l i) pi (c := c - L.1 * (m - (l.getD j (0, 0)).1) - L.1 * ((l.getD j (0, 0)).1 - (l.getD (i + 1) (0, 0)).1))).2).2 (by show (l.getD (i + 1) (0, 0)).2 ≤ _; omega)
    have a5 := most_down (p := pieceOf l i) ri h1.2 a4
    rw [sp L.1]
    rwa [show c - (L.1 * ((l.getD (i + 1) (0, 0)).1 - n) + L.1 * ((l.getD j (0, 0)).1 - (l.getD (i + 1) (0, 0)).1) + L.1 * (m - (l.getD j (0, 0)).1)) = c - L.1 * (m - (l.getD j (0, 0)).1) - L.1 * ((l.getD j (0, 0)).1 - (l.getD (i + 1) (0, 0)).1) - L.1 * ((l.getD (i + 1) (0, 0)).1 - n) by omega]
  · intro hm
    have a1 := least_down (p := pieceOf l j) rj h2.1 hm
    have a2 := ((least_node (p := pieceOf l j) pj).1).1 a1
    have a3 : (pieceOf l j).1.2 = (l.getD j (0, 0)).2 := rfl
    rw [a3] at a2
    have a4 := ((least_node (p := pieceOf l i) pi (c := c - L.2 * (m - (l.getD j (0, 0)).1) - L.2 * ((l.getD j (0, 0)).1 - (l.getD (i + 1) (0, 0)).1))).2).2 (by show _ ≤ (l.getD (i + 1) (0, 0)).2; omega)
    have a5 := least_down (p := pieceOf l i) ri h1.2 a4
    rw [sp L.2]
    rwa [show c - (L.2 * ((l.getD (i + 1) (0, 0)).1 - n) + L.2 * ((l.getD j (0, 0)).1 - (l.getD (i + 1) (0, 0)).1) + L.2 * (m - (l.getD j (0, 0)).1)) = c - L.2 * (m - (l.getD j (0, 0)).1) - L.2 * ((l.getD j (0, 0)).1 - (l.getD (i + 1) (0, 0)).1) - L.2 * ((l.getD (i + 1) (0, 0)).1 - n) by omega]
theorem by_encloses {x : Mark} (hL : L.1 ≤ L.2) {q : Int} (hx : (l.getD 0 (0, 0)).1 ≤ x.1 ∧ x.1 ≤ (l.getD (l.length - 1) (0, 0)).1) (hq : (l.getD 0 (0, 0)).1 ≤ q ∧ q ≤ (l.getD (l.length - 1) (0, 0)).1)
    (hm : atLeast (pieceP l x.1) x.1 x.2.1 ∧ atMost (pieceP l x.1) x.1 x.2.2) : atLeast (pieceP l q) q (byR L x q).1 ∧ atMost (pieceP l q) q (byR L x q).2 := by
  have hlo := h.lo
  obtain ⟨a1, a2⟩ := atPos_in (l := l) (t := x.1) (k := l.length - 2) (i := 0) (by omega) hx.1
  have a3 := atPos_up (l := l) (t := x.1) (k := l.length - 2) (i := 0) (by omega) hx.2
  obtain ⟨b1, b2⟩ := atPos_in (l := l) (t := q) (k := l.length - 2) (i := 0) (by omega) hq.1
  have b3 := atPos_up (l := l) (t := q) (k := l.length - 2) (i := 0) (by omega) hq.2
  unfold pieceP at *
  by_cases hd : 0 ≤ q - x.1
  · have hij := atP_mono (l := l) (show x.1 ≤ q by omega) (k := l.length - 2) (i := 0)
    rw [byR_up hL hd]
    have := far_up h hR hij b1 ⟨a2, a3⟩ ⟨b2, b3⟩ (show x.1 ≤ q by omega) (c := x.2.1)
    have t2 := far_up h hR hij b1 ⟨a2, a3⟩ ⟨b2, b3⟩ (show x.1 ≤ q by omega) (c := x.2.2)
    exact ⟨this.2 hm.1, t2.1 hm.2⟩
  · have hij := atP_mono (l := l) (show q ≤ x.1 by omega) (k := l.length - 2) (i := 0)
    rw [byR_down hL (by omega)]
    have := far_down h hR hij a1 ⟨b2, b3⟩ ⟨a2, a3⟩ (show q ≤ x.1 by omega) (c := x.2.1)
    have t2 := far_down h hR hij a1 ⟨b2, b3⟩ ⟨a2, a3⟩ (show q ≤ x.1 by omega) (c := x.2.2)
    exact ⟨this.2 hm.1, t2.1 hm.2⟩
end
theorem least_lo {p : (Int × Int) × (Int × Int)} (h : p.1.1 < p.2.1) {n c : Int} : atLeast p n c ↔ c ≤ timLo p n := by
  unfold atLeast timLo
  exact (Int.le_ediv_iff_mul_le (show 0 < p.2.1 - p.1.1 by omega)).symm
theorem most_hi {p : (Int × Int) × (Int × Int)} (h : p.1.1 < p.2.1) {n c : Int} : atMost p n c ↔ timHi p n ≤ c := by
  have e := Int.le_ediv_iff_mul_le (a := -c) (b := -timN p n) (show 0 < p.2.1 - p.1.1 by omega)
  unfold atMost timHi
  rw [Int.neg_mul] at e
  constructor
  · intro h1
    have := e.2 (by omega)
    omega
  · intro h1
    have := e.1 (by omega)
    omega
end Go.Lq

namespace Go.Lq

theorem enc_succ {L : Int × Int} {M : List Mark} {q : Int} {i : Nat} (h : 0 < i) : encTo L M q (i + 1) = (max (encTo L M q i).1 (byR L (M.getD i (0, 0, 0)) q).1, min (encTo L M q i).2 (byR L (M.getD i (0, 0, 0)) q).2) := by
  obtain ⟨j, rfl⟩ : ∃ j, i = j + 1 := ⟨i - 1, by omega⟩
  rfl
theorem enc_le {L : Int × Int} {M : List Mark} {q a b : Int} : ∀ {n : Nat}, 0 < n → (∀ i, i < n → (byR L (M.getD i (0, 0, 0)) q).1 ≤ a ∧ b ≤ (byR L (M.getD i (0, 0, 0)) q).2) → (encTo L M q n).1 ≤ a ∧ b ≤ (encTo L M q n).2
  | n + 1, _, h => by
    by_cases h0 : n = 0
    · subst h0; exact h 0 (by omega)
    · have ih := enc_le (L := L) (M := M) (q := q) (a := a) (b := b) (n := n) (by omega) (fun i hi => h i (by omega))
      have := h n (by omega)
      rw [enc_succ (by omega)]
      dsimp only
      omega
def NoClash (L : Int × Int) (M : List Mark) : Prop := ∀ i k, i < k → k < M.length → clashB L (M.getD i (0, 0, 0)) (M.getD k (0, 0, 0)) = false
theorem EvOk.ups {L : Int × Int} {M : List Mark} (h : EvOk L M) : ∀ {k i : Nat}, i + k + 1 < M.length → (M.getD i (0, 0, 0)).1 < (M.getD (i + k + 1) (0, 0, 0)).1
  | 0, i, hi => h.up i hi
  | k + 1, i, hi => Int.lt_trans (h.ups (k := k) (by omega)) (h.up (i + k + 1) hi)
theorem EvOk.lt {L : Int × Int} {M : List Mark} (h : EvOk L M) {i j : Nat} (hij : i < j) (hj : j < M.length) : (M.getD i (0, 0, 0)).1 < (M.getD j (0, 0, 0)).1 := by
  have := h.ups (k := j - i - 1) (i := i) (by omega)
  rwa [show i + (j - i - 1) + 1 = j by omega] at this
section
variable {L : Int × Int} {M : List Mark} (h : EvOk L M)
include h
end
end Go.Lq

namespace Go.Lq

structure AscIn (n i : Nat) (l : List Nat) : Prop where
  asc : l.Pairwise (· < ·)
  mem : ∀ x ∈ l, i ≤ x ∧ x < n
def beforeL : List Nat → List Nat → Bool
  | [], b => decide (0 < b.length)
  | _ :: _, [] => false
  | a :: s1, b :: s2 => if a = b then beforeL s1 s2 else decide (a < b)
structure Least (p : List Nat → Bool) (n : Nat) (a : List Nat) : Prop where
  asc : AscIn n 0 a
  is : p a = true
  min : ∀ b, AscIn n 0 b → p b = true → a.length < b.length ∨ (a.length = b.length ∧ (b = a ∨ beforeL a b = true))
end Go.Lq



namespace Go.Lq

abbrev mP (M : List Mark) (i : Nat) : Int := (M.getD i (0, 0, 0)).1
def inR (M : List Mark) (i : Nat) (t : Int) : Prop := (M.getD i (0, 0, 0)).2.1 ≤ t ∧ t ≤ (M.getD i (0, 0, 0)).2.2
def pieceK (M : List Mark) (i k : Nat) (s t : Int) : (Int × Int) × (Int × Int) := ((mP M i, s), (mP M k, t))
def keepsB (L : Int × Int) (p : (Int × Int) × (Int × Int)) : Bool := decide (L.1 * (p.2.1 - p.1.1) ≤ p.2.2 - p.1.2 ∧ p.2.2 - p.1.2 ≤ L.2 * (p.2.1 - p.1.1))
def meetsB (p : (Int × Int) × (Int × Int)) (x : Mark) : Bool := decide (x.2.1 * (p.2.1 - p.1.1) ≤ timN p x.1 ∧ timN p x.1 ≤ x.2.2 * (p.2.1 - p.1.1))
structure Joins (L : Int × Int) (M : List Mark) (i k : Nat) (s t : Int) : Prop where
  keeps : keepsB L (pieceK M i k s t) = true
  meets : ∀ j, i < j → j < k → meetsB (pieceK M i k s t) (M.getD j (0, 0, 0)) = true
inductive Chain (L : Int × Int) (M : List Mark) : Nat → Int → Nat → Prop
  | last {i : Nat} {s : Int} (hi : i + 1 = M.length) (h : inR M i s) : Chain L M i s 1
  | step {i k : Nat} {s t : Int} {n : Nat} (h : inR M i s) (hik : i < k) (hj : Joins L M i k s t) (hc : Chain L M k t n) : Chain L M i s (n + 1)
inductive Chain0 (L : Int × Int) (M : List Mark) : Nat → Int → Nat → Prop
  | first {s : Int} (h0 : 0 < M.length) (h : inR M 0 s) : Chain0 L M 0 s 1
  | step {i k : Nat} {s t : Int} {n : Nat} (hk : k < M.length) (h : inR M k t) (hik : i < k) (hj : Joins L M i k s t) (hc : Chain0 L M i s n) : Chain0 L M k t (n + 1)
theorem Chain.inR {L : Int × Int} {M : List Mark} {i : Nat} {s : Int} {n : Nat} (h : Chain L M i s n) : Go.Lq.inR M i s := by cases h <;> assumption
theorem Chain.lt {L : Int × Int} {M : List Mark} {i : Nat} {s : Int} {n : Nat} (h : Chain L M i s n) : i < M.length ∧ 0 < n := by
  induction h with
  | last hi _ => omega
  | step _ hik _ _ ih => omega
theorem Chain0.inR {L : Int × Int} {M : List Mark} {i : Nat} {s : Int} {n : Nat} (h : Chain0 L M i s n) : Go.Lq.inR M i s ∧ i < M.length ∧ 0 < n := by
  cases h with
  | first h0 h => exact ⟨h, h0, by omega⟩
  | step hk h _ _ _ => exact ⟨h, hk, by omega⟩
end Go.Lq

namespace Go.Lq

inductive ChainL (L : Int × Int) (M : List Mark) : Nat → Int → List (Int × Int) → Prop
  | last {i : Nat} {s : Int} (hi : i + 1 = M.length) (h : inR M i s) : ChainL L M i s [(mP M i, s)]
  | step {i k : Nat} {s t : Int} {l : List (Int × Int)} (h : inR M i s) (hik : i < k) (hj : Joins L M i k s t) (hc : ChainL L M k t l) : ChainL L M i s ((mP M i, s) :: l)
theorem ChainL.chain {L : Int × Int} {M : List Mark} {i : Nat} {s : Int} {l : List (Int × Int)} (h : ChainL L M i s l) : Chain L M i s l.length := by
  induction h with
  | last hi h => exact Chain.last hi h
  | step h hik hj _ ih => exact Chain.step h hik hj ih
structure CourseOf (L : Int × Int) (M : List Mark) (i : Nat) (s : Int) (l : List (Int × Int)) : Prop where
  head : l.getD 0 (0, 0) = (mP M i, s)
  pos : 0 < l.length
  few : l.length ≤ M.length - i
  one : l.length = 1 → i + 1 = M.length
  nodes : ∀ j, j < l.length → ∃ k, i ≤ k ∧ k < M.length ∧ (l.getD j (0, 0)).1 = mP M k ∧ inR M k (l.getD j (0, 0)).2
  up : ∀ j, j + 1 < l.length → (l.getD j (0, 0)).1 < (l.getD (j + 1) (0, 0)).1 ∧ keepsB L (pieceOf l j) = true
  marks : ∀ k, i ≤ k → k < M.length → 2 ≤ l.length → ∃ j, j + 1 < l.length ∧ (l.getD j (0, 0)).1 ≤ mP M k ∧ mP M k ≤ (l.getD (j + 1) (0, 0)).1 ∧ meetsB (pieceOf l j) (M.getD k (0, 0, 0)) = true
  endAt : (l.getD (l.length - 1) (0, 0)).1 = mP M (M.length - 1)
theorem CourseOf.mapOk {L : Int × Int} {M : List Mark} (he : EvOk L M) {i : Nat} {s : Int} {l : List (Int × Int)} (h : CourseOf L M i s l) (h2 : 2 ≤ l.length) : MapOk l where
  lo := h2
  hi := by have := h.few; have := he.len; omega
  pos := fun j hj => by
    obtain ⟨k, _, hk, e, _⟩ := h.nodes j hj
    rw [e]; exact he.pos k hk
  time := fun j hj => by
    obtain ⟨k, _, hk, _, hr⟩ := h.nodes j hj
    have := he.t1 k hk
    have := he.t2 k hk
    have := hr.1
    have := hr.2
    omega
  posUp := fun j hj => (h.up j hj).1
  timeUp := fun j hj => by
    obtain ⟨hp, hk⟩ := h.up j hj
    have hk' := (of_decide_eq_true hk).1
    have e1 : (pieceOf l j).2.1 - (pieceOf l j).1.1 = (l.getD (j + 1) (0, 0)).1 - (l.getD j (0, 0)).1 := rfl
    have e2 : (pieceOf l j).2.2 - (pieceOf l j).1.2 = (l.getD (j + 1) (0, 0)).2 - (l.getD j (0, 0)).2 := rfl
    rw [e1, e2] at hk'
    have hl := he.lo
    have m1 := Int.mul_le_mul hl.1 (show 1 ≤ (l.getD (j + 1) (0, 0)).1 - (l.getD j (0, 0)).1 by omega) (by omega) (by omega)
    omega
theorem CourseOf.rate {L : Int × Int} {M : List Mark} {i : Nat} {s : Int} {l : List (Int × Int)} (h : CourseOf L M i s l) : RateOk L l := fun j hj => of_decide_eq_true (h.up j hj).2
theorem least_any {l : List (Int × Int)} (h : MapOk l) {n c : Int} {j : Nat} (hj : j + 1 < l.length) (ha : (l.getD j (0, 0)).1 ≤ n) (hb : n ≤ (l.getD (j + 1) (0, 0)).1) :
    (atLeast (pieceP l n) n c ↔ atLeast (pieceOf l j) n c) ∧ (atMost (pieceP l n) n c ↔ atMost (pieceOf l j) n c) := by
  have hlo := h.lo
  have h0 : (l.getD 0 (0, 0)).1 ≤ n := Int.le_trans (h.posLe (Nat.zero_le j) (by omega)) ha
  obtain ⟨a1, _⟩ := atPos_in (l := l) (t := n) (k := l.length - 2) (i := 0) (by omega) h0
  have e1 := timLo_of h hj ha hb
  have e2 := timHi_of h hj ha hb
  unfold mapTimLo at e1
  unfold mapTimHi at e2
  have hpP : (pieceP l n).1.1 < (pieceP l n).2.1 := (h.piece a1).pos
  have hpj : (pieceOf l j).1.1 < (pieceOf l j).2.1 := (h.piece hj).pos
  rw [least_lo hpP, least_lo hpj, most_hi hpP, most_hi hpj, e1, e2]
  exact ⟨Iff.rfl, Iff.rfl⟩
theorem CourseOf.meets {L : Int × Int} {M : List Mark} (he : EvOk L M) {i : Nat} {s : Int} {l : List (Int × Int)} (h : CourseOf L M i s l) (h2 : 2 ≤ l.length) {k : Nat} (hik : i ≤ k) (hk : k < M.length) :
    atLeast (pieceP l (mP M k)) (mP M k) (M.getD k (0, 0, 0)).2.1 ∧ atMost (pieceP l (mP M k)) (mP M k) (M.getD k (0, 0, 0)).2.2 := by
  obtain ⟨j, h3, h4, h5, h6⟩ := h.marks k hik hk h2
  have hm := h.mapOk he h2
  have h7 := of_decide_eq_true h6
  exact ⟨(least_any hm h3 h4 h5).1.2 h7.1, (least_any hm h3 h4 h5).2.2 h7.2⟩
end Go.Lq

namespace Go.Lq

abbrev Way := Nat × (Int × Int) × Nat
def meetsAll (p : (Int × Int) × (Int × Int)) (M : List Mark) (j : Nat) : Nat → Bool
  | 0 => true
  | n + 1 => meetsB p (M.getD j (0, 0, 0)) && meetsAll p M (j + 1) n
theorem meetsAll_iff {p : (Int × Int) × (Int × Int)} {M : List Mark} : ∀ {n j : Nat}, meetsAll p M j n = true ↔ ∀ k, j ≤ k → k < j + n → meetsB p (M.getD k (0, 0, 0)) = true
  | 0, j => ⟨fun _ k h1 h2 => by omega, fun _ => rfl⟩
  | n + 1, j => by
    unfold meetsAll
    rw [Bool.and_eq_true, meetsAll_iff]
    constructor
    · rintro ⟨h1, h2⟩ k h3 h4
      by_cases e : k = j
      · subst e; exact h1
      · exact h2 k (by omega) (by omega)
    · intro h
      exact ⟨h j (Nat.le_refl _) (by omega), fun k h1 h2 => h k (by omega) (by omega)⟩
def joinsB (L : Int × Int) (M : List Mark) (i k : Nat) (s t : Int) : Bool := keepsB L (pieceK M i k s t) && meetsAll (pieceK M i k s t) M (i + 1) (k - i - 1)
theorem joinsB_iff {L : Int × Int} {M : List Mark} {i k : Nat} {s t : Int} (hik : i < k) : joinsB L M i k s t = true ↔ Joins L M i k s t := by
  unfold joinsB
  rw [Bool.and_eq_true, meetsAll_iff]
  exact ⟨fun ⟨h1, h2⟩ => ⟨h1, fun j a b => h2 j (by omega) (by omega)⟩, fun h => ⟨h.keeps, fun j a b => h.meets j (by omega) (by omega)⟩⟩
def shStep (W : Nat → Int → Option Nat) (L : Int × Int) (M : List Mark) (i : Nat) (s : Int) (k : Nat) (t : Int) (out : Way) : Way :=
  match W k t with
  | some w => if (out.1 = 0 ∨ w + 1 < out.1) ∧ joinsB L M i k s t = true then (w + 1, (mP M k, t), k) else out
  | none => out
def shRow (W : Nat → Int → Option Nat) (L : Int × Int) (M : List Mark) (i : Nat) (s : Int) (k : Nat) : Nat → Int → Way → Way
  | 0, _, out => out
  | n + 1, t, out => shRow W L M i s k n (t + 1) (shStep W L M i s k t out)
def widthN (M : List Mark) (k : Nat) : Nat := ((M.getD k (0, 0, 0)).2.2 - (M.getD k (0, 0, 0)).2.1 + 1).toNat
def shAll (W : Nat → Int → Option Nat) (L : Int × Int) (M : List Mark) (i : Nat) (s : Int) : Nat → Nat → Way → Way
  | 0, _, out => out
  | n + 1, k, out => shAll W L M i s n (k + 1) (shRow W L M i s k (widthN M k) (M.getD k (0, 0, 0)).2.1 out)
structure Kept (W : Nat → Int → Option Nat) (L : Int × Int) (M : List Mark) (i : Nat) (s : Int) (C : Nat → Int → Prop) (out : Way) : Prop where
  is : 0 < out.1 → ∃ k t, C k t ∧ joinsB L M i k s t = true ∧ W k t = some (out.1 - 1) ∧ out.2 = ((mP M k, t), k)
  min : ∀ k t w, C k t → joinsB L M i k s t = true → W k t = some w → 0 < out.1 ∧ out.1 ≤ w + 1
section
variable {W : Nat → Int → Option Nat} {L : Int × Int} {M : List Mark} {i : Nat} {s : Int}
theorem Kept.zero {z : (Int × Int) × Nat} : Kept W L M i s (fun _ _ => False) (0, z) := ⟨fun h => absurd h (Nat.lt_irrefl 0), fun _ _ _ h => h.elim⟩
theorem Kept.step {C : Nat → Int → Prop} {out : Way} (h : Kept W L M i s C out) (k : Nat) (t : Int) : Kept W L M i s (fun a b => C a b ∨ (a = k ∧ b = t)) (shStep W L M i s k t out) := by
  unfold shStep
  cases hw : W k t with
  | none =>
    refine ⟨fun h0 => ?_, fun a b w hc hj hab => ?_⟩
    · obtain ⟨a, b, h1, h2⟩ := h.is h0
      exact ⟨a, b, .inl h1, h2⟩
    · rcases hc with hc | ⟨rfl, rfl⟩
      · exact h.min a b w hc hj hab
      · rw [hw] at hab; cases hab
  | some v =>
    dsimp only
    by_cases hc : (out.1 = 0 ∨ v + 1 < out.1) ∧ joinsB L M i k s t = true
    · rw [if_pos hc]
      refine ⟨fun _ => ⟨k, t, .inr ⟨rfl, rfl⟩, hc.2, hw, rfl⟩, fun a b w hab hj hw' => ?_⟩
      show 0 < v + 1 ∧ v + 1 ≤ w + 1
      rcases hab with hab | ⟨rfl, rfl⟩
      · have := h.min a b w hab hj hw'
        have := hc.1
        omega
      · rw [hw] at hw'; cases hw'; omega
    · rw [if_neg hc]
      refine ⟨fun h0 => ?_, fun a b w hab hj hw' => ?_⟩
      · obtain ⟨a, b, h1, h2⟩ := h.is h0
        exact ⟨a, b, .inl h1, h2⟩
      · rcases hab with hab | ⟨rfl, rfl⟩
        · exact h.min a b w hab hj hw'
        · rw [hw] at hw'
          have e : v = w := by simpa using hw'
          have : ¬ (out.1 = 0 ∨ v + 1 < out.1) := fun x => hc ⟨x, hj⟩
          omega
theorem Kept.congr {C D : Nat → Int → Prop} {out : Way} (h : Kept W L M i s C out) (e : ∀ k t, C k t ↔ D k t) : Kept W L M i s D out :=
  ⟨fun h0 => by obtain ⟨a, b, h1, h2⟩ := h.is h0; exact ⟨a, b, (e a b).1 h1, h2⟩, fun a b w hc => h.min a b w ((e a b).2 hc)⟩
theorem Kept.row {k : Nat} : ∀ {n : Nat} {t : Int} {C : Nat → Int → Prop} {out : Way}, Kept W L M i s C out → Kept W L M i s (fun a b => C a b ∨ (a = k ∧ t ≤ b ∧ b < t + n)) (shRow W L M i s k n t out)
  | 0, t, C, out, h => h.congr fun a b => ⟨.inl, fun x => by rcases x with x | x; exact x; omega⟩
  | n + 1, t, C, out, h => by
    unfold shRow
    refine (Kept.row (n := n) (t := t + 1) (h.step k t)).congr fun a b => ?_
    constructor
    · rintro ((x | ⟨rfl, rfl⟩) | ⟨rfl, x⟩)
      · exact .inl x
      · exact .inr ⟨rfl, by omega⟩
      · exact .inr ⟨rfl, by omega⟩
    · rintro (x | ⟨rfl, x⟩)
      · exact .inl (.inl x)
      · by_cases e : b = t
        · exact .inl (.inr ⟨rfl, e⟩)
        · exact .inr ⟨rfl, by omega⟩
theorem Kept.all : ∀ {n k : Nat} {C : Nat → Int → Prop} {out : Way}, Kept W L M i s C out → Kept W L M i s (fun a b => C a b ∨ (k ≤ a ∧ a < k + n ∧ inR M a b)) (shAll W L M i s n k out)
  | 0, k, C, out, h => h.congr fun a b => ⟨.inl, fun x => by rcases x with x | x; exact x; omega⟩
  | n + 1, k, C, out, h => by
    unfold shAll
    refine (Kept.all (n := n) (k := k + 1) (h.row (k := k) (n := widthN M k) (t := (M.getD k (0, 0, 0)).2.1))).congr fun a b => ?_
    have hr : inR M k b ↔ (M.getD k (0, 0, 0)).2.1 ≤ b ∧ b < (M.getD k (0, 0, 0)).2.1 + (widthN M k : Int) := by unfold inR widthN; omega
    constructor
    · rintro ((x | ⟨rfl, x⟩) | ⟨x, y, z⟩)
      · exact .inl x
      · exact .inr ⟨Nat.le_refl _, by omega, hr.2 x⟩
      · exact .inr ⟨by omega, by omega, z⟩
    · rintro (x | ⟨x, y, z⟩)
      · exact .inl (.inl x)
      · by_cases e : a = k
        · subst e; exact .inl (.inr ⟨rfl, hr.1 z⟩)
        · exact .inr ⟨by omega, by omega, z⟩
end
def zeroW : Way := (0, (0, 0), 0)
noncomputable def tabN (L : Int × Int) (M : List Mark) : Nat → Nat → Int → Option Way
  | 0, _, _ => none
  | r + 1, k, t => if k = M.length - 1 - r then
      (if (M.getD k (0, 0, 0)).2.1 ≤ t ∧ t ≤ (M.getD k (0, 0, 0)).2.2 then (if r = 0 then some (1, (0, 0), 0) else
        if 0 < (shAll (fun a b => (tabN L M r a b).map (·.1)) L M k t r (k + 1) zeroW).1 then some (shAll (fun a b => (tabN L M r a b).map (·.1)) L M k t r (k + 1) zeroW) else none) else none)
    else tabN L M r k t
theorem tabN_spec {L : Int × Int} {M : List Mark} : ∀ {r : Nat}, r ≤ M.length → ∀ {k : Nat} {t : Int}, M.length - r ≤ k → k < M.length →
    (∀ w, tabN L M r k t = some w → Chain L M k t w.1 ∧ ∀ n, Chain L M k t n → w.1 ≤ n) ∧ (tabN L M r k t = none → ∀ n, ¬ Chain L M k t n)
  | 0, _, k, t, h1, h2 => by omega
  | r + 1, hr, k, t, h1, h2 => by
    have ih := fun {k : Nat} {t : Int} => tabN_spec (L := L) (M := M) (r := r) (by omega) (k := k) (t := t)
    unfold tabN
    by_cases hk : k = M.length - 1 - r
    · rw [if_pos hk]
      by_cases hin : (M.getD k (0, 0, 0)).2.1 ≤ t ∧ t ≤ (M.getD k (0, 0, 0)).2.2
      · rw [if_pos hin]
        by_cases h0 : r = 0
        · rw [if_pos h0]
          refine ⟨fun w hw => ?_, fun hw => by cases hw⟩
          cases hw
          exact ⟨Chain.last (by omega) hin, fun n hn => hn.lt.2⟩
        · rw [if_neg h0]
          have kept := Kept.all (W := fun a b => (tabN L M r a b).map (·.1)) (L := L) (M := M) (i := k) (s := t) (n := r) (k := k + 1) (Kept.zero (z := ((0, 0), 0)))
          have kept : Kept (fun a b => (tabN L M r a b).map (·.1)) L M k t (fun a b => False ∨ (k + 1 ≤ a ∧ a < k + 1 + r ∧ inR M a b)) (shAll (fun a b => (tabN L M r a b).map (·.1)) L M k t r (k + 1) zeroW) := kept
          generalize shAll (fun a b => (tabN L M r a b).map (·.1)) L M k t r (k + 1) zeroW = out at *
          have hall : ∀ n, Chain L M k t n → 0 < out.1 ∧ out.1 ≤ n := fun n hn => by
            cases hn with
            | last hi _ => omega
            | @step _ a _ b m h3 hik hj hc =>
              have hal := hc.lt.1
              cases hw : tabN L M r a b with
              | none => exact absurd hc ((ih (by omega) hal).2 hw m)
              | some w =>
                have hmin := ((ih (by omega) hal).1 w hw).2 m hc
                have := kept.min a b w.1 (.inr ⟨by omega, by omega, hc.inR⟩) ((joinsB_iff hik).2 hj) (by show (tabN L M r a b).map (·.1) = _; rw [hw]; rfl)
                omega
          by_cases hp : 0 < out.1
          · rw [if_pos hp]
            refine ⟨fun w hw => ?_, fun hw => by cases hw⟩
            cases hw
            refine ⟨?_, fun n hn => (hall n hn).2⟩
            obtain ⟨a, b, hc, hj, hw, _⟩ := kept.is hp
            obtain ⟨c1, c2, c3⟩ := hc.resolve_left id
            have hw : (tabN L M r a b).map (·.1) = some (out.1 - 1) := hw
            cases hq : tabN L M r a b with
            | none => rw [hq] at hw; cases hw
            | some q =>
              rw [hq] at hw
              have hq1 : q.1 = out.1 - 1 := by simpa using hw
              have hch := ((ih (by omega) (by omega)).1 q hq).1
              rw [hq1] at hch
              have := Chain.step hin (show k < a by omega) ((joinsB_iff (by omega)).1 hj) hch
              rwa [show out.1 - 1 + 1 = out.1 by omega] at this
          · rw [if_neg hp]
            exact ⟨fun w hw => by (cases hw), fun _ n hn => hp (hall n hn).1⟩
      · rw [if_neg hin]
        exact ⟨fun w hw => by (cases hw), fun _ n hn => hin hn.inR⟩
    · rw [if_neg hk]
      exact ih (by omega) h2
end Go.Lq

namespace Go.Lq
open Go
open Go.Proofs

def markV (x : Mark) : Value := .agg ⟨[.int .i64 x.1, .int .i64 x.2.1, .int .i64 x.2.2]⟩
def markC (x : Mark) : List Value := [.int .i64 x.1, .int .i64 x.2.1, .int .i64 x.2.2]
def evV (L : Int × Int) (v : Value) : Value := .agg ⟨[.int .i64 L.1, .int .i64 L.2, v]⟩
def evC (L : Int × Int) (v : Value) : List Value := [.int .i64 L.1, .int .i64 L.2, v]
theorem Sl.atom {H : AHeap} {sz n : Nat} {vs : List Value} {v : Value} (h : Sl H sz n vs v) : isAtom v = true := by
  rcases h.2 with ⟨rfl, _⟩ | ⟨id, off, c, rfl, _⟩ <;> rfl
theorem Tris.atom {H : AHeap} {M : List Mark} {v : Value} (h : Tris H M v) : isAtom v = true := Sl.atom h
theorem box_mark {x : Mark} {H : AHeap} : boxR (markV x) H = some (.pointer (some ⟨H.length, 0, none⟩), H ++ [.cells true 0 (markC x)]) := box_agg rfl
theorem box_ev {L : Int × Int} {v : Value} (h : isAtom v = true) {H : AHeap} : boxR (evV L v) H = some (.pointer (some ⟨H.length, 0, none⟩), H ++ [.cells true 0 (evC L v)]) := box_agg (by simp [h, isAtom_int])
theorem load_mark {G : AHeap} {id : Nat} {x : Mark} (h : G[id]? = some (.cells true 0 (markC x))) : loadNR 3 (.pointer (some ⟨id, 0, none⟩)) G = some (markV x, G) := loadN_at h (by simp [markC])
theorem load_mark2 {G : AHeap} {id : Nat} {x : Mark} (h : G[id]? = some (.cells true 0 (markC x))) : loadNR 2 (.pointer (some ⟨id, 1, none⟩)) G = some (.agg ⟨[.int .i64 x.2.1, .int .i64 x.2.2]⟩, G) := loadN_at h (by simp [markC])
theorem load_ev {G : AHeap} {id : Nat} {L : Int × Int} {v : Value} (h : G[id]? = some (.cells true 0 (evC L v))) : loadNR 3 (.pointer (some ⟨id, 0, none⟩)) G = some (evV L v, G) := loadN_at h (by simp [evC])
theorem load_lim {G : AHeap} {id : Nat} {L : Int × Int} {v : Value} (h : G[id]? = some (.cells true 0 (evC L v))) : loadNR 2 (.pointer (some ⟨id, 0, none⟩)) G = some (.agg ⟨[.int .i64 L.1, .int .i64 L.2]⟩, G) := loadN_at h (by simp [evC])
theorem store_new3 {H : AHeap} {a b c : Int} {x y z : Value} {e : Nat} : storeR 3 (.pointer (some ⟨H.length, 0, none⟩)) (.agg ⟨[.int .i64 a, .int .i64 b, .int .i64 c]⟩) (H ++ [.cells true e [x, y, z]]) = some (undef, H ++ [.cells true e [.int .i64 a, .int .i64 b, .int .i64 c]]) :=
  store_new (us := [.int .i64 a, .int .i64 b, .int .i64 c]) rfl rfl
theorem new_mark (x : Mark) : ([.int .i64 x.1, .int .i64 x.2.1, .int .i64 x.2.2] : List Value) = markC x := rfl
theorem bool_and {p q : Prop} [Decidable p] [Decidable q] : (decide p && decide q) = decide (p ∧ q) := by by_cases p <;> by_cases q <;> simp_all

section
variable {H : AHeap}
theorem ends_c {g : FuncId} {p : Int → Bool} {a b : Int} (hg : ∀ (n : Int) (J : AHeap), Ext H J → ACall Go.Proofs.Tryz.prog g [.int .i64 n] J fun v H' => v = .bool (p n) ∧ H' = J) :
    ACall Go.Proofs.Tryz.prog 71 [.agg ⟨[.int .i64 a, .int .i64 b]⟩, .func (.func g) #[] #[]] H fun v H' => v = .bool (p a && p b) ∧ H' = H := by
  refine ACall.drop (.bool _) ?_
  (refine a71 ?_; simp only [n71, List.replicate, yq, yr, yt, yu]; first | refine q1 ?_ | refine q2 ?_ | refine q6 ?_ | refine q7 ?_ | refine qh rfl ?_ | skip)
  have g0 : (H ++ [AObj.cells true 0 [.int .i64 a, .int .i64 b]])[H.length]? = some (.cells true 0 [.int .i64 a, .int .i64 b]) := at_new
  have xG : Ext H (H ++ [AObj.cells true 0 [.int .i64 a, .int .i64 b]]) := (Ext.refl H).app _
  (refine yh ?_)
  generalize (H ++ [AObj.cells true 0 [.int .i64 a, .int .i64 b]] : AHeap) = G at g0 xG
  (repeat (first | refine yw ?_ | ((first | apply yd | apply ye); simp (disch := first|exact zz|fail) only [go_sem, load_at g0]; with_reducible rfl)))
  (refine aops_call_to (hg _ _ xG) ?_)
  cases hp : p a with
  | true =>
    (repeat (first | refine yw ?_ | ((first | apply yd | apply ye); simp (disch := first|exact zz|fail) only [go_sem, load_at g0]; with_reducible rfl)))
    (refine aops_call_to (hg _ _ xG) ?_)
    (refine yg ?_)
    exact fin_1 ⟨rfl, xG⟩
  | false =>
    (refine yg ?_)
    exact fin_1 ⟨rfl, xG⟩
theorem markErr_c (x : Mark) : ACall Go.Proofs.Tryz.prog 38 [markV x] H fun v H' => v = .int .i64 (markE x) ∧ H' = H := by
  refine ACall.drop (.int _ _) ?_
  (refine a38 ?_; simp only [n38, List.replicate, yq, yr, yt, yu]; first | refine q1 ?_ | refine q2 ?_ | refine q6 ?_ | refine q7 ?_ | refine qh rfl ?_ | skip)
  have g0 : (H ++ [AObj.cells true 0 (markC x)])[H.length]? = some (.cells true 0 (markC x)) := at_new
  have xG : Ext H (H ++ [AObj.cells true 0 (markC x)]) := (Ext.refl H).app _
  (repeat (first | refine yv ?_ | (apply yd; simp (disch := first|exact zz|fail) only [go_sem, box_mark]; with_reducible rfl)))
  generalize (H ++ [AObj.cells true 0 (markC x)] : AHeap) = G at g0 xG
  have e0 : markE x = firstErr [(if (decide (0 ≤ x.1 ∧ x.1 ≤ 1000000) && (decide (0 ≤ x.2.1 ∧ x.2.1 ≤ 1000000000000) && decide (0 ≤ x.2.2 ∧ x.2.2 ≤ 1000000000000))) = true then 0 else 2), (if decide (x.2.1 ≤ x.2.2) = true then 0 else 9)] := by
    unfold markE
    simp only [bool_and, decide_eq_true_eq]
  (repeat (first | refine yw ?_ | ((first | apply yd | apply ye); simp (disch := first|exact zz|fail) only [go_sem, load_at g0, markC]; with_reducible rfl)))
  (refine adraw_call (N := []) (firstD (isPosition_c _)) ?_; rw [List.append_nil])
  by_cases hp : 0 ≤ x.1 ∧ x.1 ≤ 1000000
  · (repeat (first | refine yw ?_ | ((first | apply yd | apply ye); simp (disch := first|exact zz|fail) only [go_sem, dec_t hp, load_mark2 g0]; with_reducible rfl)))
    (refine adraw_call (N := []) (firstD (ends_c (p := fun n => decide (0 ≤ n ∧ n ≤ 1000000000000)) (fun n J _ => isTime_c n))) ?_; rw [List.append_nil])
    (repeat (first | refine yw ?_ | ((first | apply yd | apply ye); simp (disch := first|exact zz|fail) only [go_sem, load_at g0, markC]; with_reducible rfl)))
    (refine adraw_call (N := []) (firstD (sunless_c _ _)) ?_; rw [List.append_nil])
    (repeat (first | refine yw ?_ | ((first | apply yd | apply ye); simp (disch := first|exact zz|fail) only [go_sem, load_at g0, markC]; with_reducible rfl)))
    (refine adraw_call (N := []) (firstD (sunless_c _ _)) ?_; rw [List.append_nil])
    (refine yg ?_)
    (refine adraw_call (N := []) (firstD (sfirst_c (l := [_, _]) (Ints.last (l := [_, _]) 2) (by simp))) ?_; rw [List.append_nil])
    (refine yg ?_)
    refine fin_1 ⟨?_, xG.app _⟩
    rw [e0, dec_t hp]; rfl
  · (repeat (first | refine yw ?_ | ((first | apply yd | apply ye); simp (disch := first|exact zz|fail) only [go_sem, dec_f hp]; with_reducible rfl)))
    (refine adraw_call (N := []) (firstD (sunless_c _ _)) ?_; rw [List.append_nil])
    (repeat (first | refine yw ?_ | ((first | apply yd | apply ye); simp (disch := first|exact zz|fail) only [go_sem, load_at g0, markC]; with_reducible rfl)))
    (refine adraw_call (N := []) (firstD (sunless_c _ _)) ?_; rw [List.append_nil])
    (refine yg ?_)
    (refine adraw_call (N := []) (firstD (sfirst_c (l := [_, _]) (Ints.last (l := [_, _]) 2) (by simp))) ?_; rw [List.append_nil])
    (refine yg ?_)
    refine fin_1 ⟨?_, xG.app _⟩
    rw [e0, dec_f hp]; rfl
theorem isRate_c (n : Int) : ACall Go.Proofs.Tryz.prog 95 [.int .i64 n] H fun v H' => v = .bool (decide (1 ≤ n ∧ n ≤ 100000)) ∧ H' = H := by
  (refine a95 ?_; simp only [n95, List.replicate, yq, yr, yt, yu]; first | refine q1 ?_ | refine q2 ?_ | refine q6 ?_ | refine q7 ?_ | refine qh rfl ?_ | skip)
  (refine yg ?_)
  (refine aops_call_to (swithin_c _ _ _) ?_)
  (refine yg ?_)
  exact fin_1 ⟨rfl, rfl⟩
theorem limE_eq (L : Int × Int) (n : Nat) : firstErr [(if (decide (1 ≤ L.1 ∧ L.1 ≤ 100000) && decide (1 ≤ L.2 ∧ L.2 ≤ 100000)) = true then 0 else 2), (if decide (L.1 ≤ L.2) = true then 0 else 9), (if decide ((n : Int) ≤ 12) = true then 0 else 8)] = limE L n := by
  unfold limE
  simp only [bool_and, decide_eq_true_eq]
theorem markO_eq (p : Int) (x : Mark) : firstErr [markE x, (if decide (p < x.1) = true then 0 else 9)] = markO p x := by
  unfold markO
  simp only [decide_eq_true_eq]

set_option maxHeartbeats 4000000 in
theorem checkEv_c {L : Int × Int} {M : List Mark} {v : Value} (hl : Tris H M v) (hb : M.length ≤ 1000000000) : ACall Go.Proofs.Tryz.prog 76 [evV L v] H fun w H' => w = .tuple #[.int .i64 (ckEv L M).1, .int .i64 (ckEv L M).2] ∧ H' = H := by
  refine ACall.drop (closed_two _ _) ?_
  (refine a76 ?_; simp only [n76, List.replicate, yq, yr, yt, yu]; first | refine q1 ?_ | refine q2 ?_ | refine q6 ?_ | refine q7 ?_ | refine qh rfl ?_ | skip)
  have g0 : (H ++ [AObj.cells true 0 (evC L v)])[H.length]? = some (.cells true 0 (evC L v)) := at_new
  have xG : Ext H (H ++ [AObj.cells true 0 (evC L v)]) := (Ext.refl H).app _
  (repeat (first | refine yv ?_ | (apply yd; simp (disch := first|exact zz|fail) only [go_sem, box_ev hl.atom]; with_reducible rfl)))
  generalize (H ++ [AObj.cells true 0 (evC L v)] : AHeap) = G at g0 xG
  have hl1 := hl.ext xG
  (repeat (first | refine yw ?_ | ((first | apply yd | apply ye); simp (disch := first|exact zz|fail) only [go_sem, load_lim g0]; with_reducible rfl)))
  (refine adraw_call (N := []) (firstD (ends_c (p := fun n => decide (1 ≤ n ∧ n ≤ 100000)) (fun n J _ => isRate_c n))) ?_; rw [List.append_nil])
  (refine yg ?_)
  (refine adraw_call (N := []) (firstD (sunless_c _ _)) ?_; rw [List.append_nil])
  (repeat (first | refine yw ?_ | ((first | apply yd | apply ye); simp (disch := first|exact zz|fail) only [go_sem, load_at g0, evC]; with_reducible rfl)))
  (refine adraw_call (N := []) (firstD (sunless_c _ _)) ?_; rw [List.append_nil])
  (repeat (first | refine yw ?_ | ((first | apply yd | apply ye); simp (disch := first|exact zz|fail) only [go_sem, hl1.len, hl1.idx, hl1.load, load_at g0, evC]; with_reducible rfl)))
  (refine adraw_call (N := []) (firstD (sunless_c _ _)) ?_; rw [List.append_nil])
  (refine yg ?_)
  (refine adraw_call (N := []) (firstD (sfirst_c (l := [_, _, _]) (Ints.last (l := [_, _, _]) 3) (by simp))) ?_; rw [List.append_nil])
  rw [limE_eq]
  have x2 : Ext G (G ++ [AObj.cells true 1 [.int .i64 (if (decide (1 ≤ L.1 ∧ L.1 ≤ 100000) && decide (1 ≤ L.2 ∧ L.2 ≤ 100000)) = true then 0 else 2), .int .i64 (if decide (L.1 ≤ L.2) = true then 0 else 9), .int .i64 (if decide ((M.length : Int) ≤ 12) = true then 0 else 8)]]) := (Ext.refl G).app _
  generalize (G ++ [AObj.cells true 1 [.int .i64 (if (decide (1 ≤ L.1 ∧ L.1 ≤ 100000) && decide (1 ≤ L.2 ∧ L.2 ≤ 100000)) = true then 0 else 2), .int .i64 (if decide (L.1 ≤ L.2) = true then 0 else 9), .int .i64 (if decide ((M.length : Int) ≤ 12) = true then 0 else 8)]] : AHeap) = G2 at x2
  have xH2 := xG.trans x2
  have k0 := x2.cell g0
  have hl2 := hl.ext xH2
  (refine yg ?_)
  refine cond_p rfl (fun hne => ?_) (fun heq => ?_)
  · have ec : ckEv L M = (0, limE L M.length) := by unfold ckEv; rw [if_pos hne]
    rw [ec]
    (refine yg ?_)
    exact fin_2 ⟨rfl, xH2⟩
  have ec : ckEv L M = ckMarks (-1) 0 M := by unfold ckEv; rw [if_neg heq]
  rw [ec]
  clear ec
  (repeat (first | refine yw ?_ | ((first | apply yd | apply ye); simp (disch := first|exact zz|fail) only [go_sem, hl2.len, hl2.idx, hl2.load, load_at k0, evC]; with_reducible rfl)))
  refine awp_loop_n [false, false, false, false, false, false, true, false, false, false, false, false, false, false, false, false, false, false, false, false, false, false, false, false, false, false, false, false, false, false, false, false, false, false, true, true, true, false, false, false, false, false, false, false, false, false, false, false, false, false, false, false, false, false, false, false, false] M.length (fun i e H' => e = [junk, junk, junk, junk, junk, junk, .int .i64 (lastAt M i), junk, junk, junk, junk, junk, junk, junk, junk, junk, junk, junk, junk, junk, junk, junk, junk, junk, junk, junk, junk, junk, junk, junk, junk, junk, junk, junk, v, .int .i64 (M.length : Nat), .int .i64 i, junk, junk, junk, junk, junk, junk, junk, junk, junk, junk, junk, junk, junk, junk, junk, junk, junk, junk, junk, junk] ∧ Ext G2 H' ∧ ckMarks (-1) 0 M = ckMarks (lastAt M i) i (M.drop i)) ?_ ?_
  · exact ⟨by simp [forget, lastAt], Ext.refl _, rfl⟩
  rintro i e H' hi ⟨rfl, x3, hj⟩
  have hll := hl2.ext x3
  (refine yg ?_)
  refine cond_p rfl (fun hlt => ?_) (fun hge => ?_)
  rotate_left 1
  · obtain rfl : i = M.length := by omega
    rw [ckMarks_end (i := M.length)] at hj
    (refine yg ?_)
    exact fin_2 ⟨by rw [hj]; rfl, xH2.trans x3⟩
  have hi' : i < M.length := by omega
  rw [ckMarks_at hi'] at hj
  (repeat (first | refine yv ?_ | (apply yd; simp (disch := first|exact zz|fail) only [go_sem, hll.len, hll.idx, hll.load, store_new3]; with_reducible rfl)))
  have hls : lastAt M (i + 1) = (M.getD i (0, 0, 0)).1 := lastAt_succ
  generalize M.getD i (0, 0, 0) = x at *
  rw [new_mark x]
  have b8 : (H' ++ [AObj.cells true 0 (markC x)])[H'.length]? = some (.cells true 0 (markC x)) := at_new
  have x4 : Ext H' (H' ++ [AObj.cells true 0 (markC x)]) := (Ext.refl H').app _
  generalize (H' ++ [AObj.cells true 0 (markC x)] : AHeap) = H1 at b8 x4
  (repeat (first | refine yw ?_ | ((first | apply yd | apply ye); simp (disch := first|exact zz|fail) only [go_sem, load_mark b8]; with_reducible rfl)))
  (refine adraw_call (N := []) (firstD (markErr_c x)) ?_; rw [List.append_nil])
  (repeat (first | refine yw ?_ | ((first | apply yd | apply ye); simp (disch := first|exact zz|fail) only [go_sem, load_at b8, markC]; with_reducible rfl)))
  (refine adraw_call (N := []) (firstD (sunless_c _ _)) ?_; rw [List.append_nil])
  (refine yg ?_)
  (refine adraw_call (N := []) (firstD (sfirst_c (l := [_, _]) (Ints.last (l := [_, _]) 2) (by simp))) ?_; rw [List.append_nil])
  rw [markO_eq]
  have x5 : Ext H1 (H1 ++ [AObj.cells true 1 [.int .i64 (markE x), .int .i64 (if decide (lastAt M i < x.1) = true then 0 else 9)]]) := (Ext.refl H1).app _
  generalize (H1 ++ [AObj.cells true 1 [.int .i64 (markE x), .int .i64 (if decide (lastAt M i < x.1) = true then 0 else 9)]] : AHeap) = H2 at x5
  have b8' := x5.cell b8
  (refine yg ?_)
  refine cond_p rfl (fun hne => ?_) (fun heq => ?_)
  · rw [if_pos hne] at hj
    (refine yg ?_)
    exact fin_2 ⟨by rw [hj]; rfl, xH2.trans (x3.trans (x4.trans x5))⟩
  · rw [if_neg heq] at hj
    (repeat (first | refine yw ?_ | ((first | apply yd | apply ye); simp (disch := first|exact zz|fail) only [go_sem, load_at b8', markC]; with_reducible rfl)))
    exact ⟨by omega, by simp [forget, hls], x3.trans (x4.trans x5), hj⟩
end
end Go.Lq

namespace Go.Lq
open Go
open Go.Proofs

def pairsRow (L : Int × Int) (M : List Mark) (i k : Nat) : Nat → List (Nat × Nat)
  | 0 => []
  | n + 1 => if clashB L (M.getD i (0, 0, 0)) (M.getD k (0, 0, 0)) = true then (i, k) :: pairsRow L M i (k + 1) n else pairsRow L M i (k + 1) n
def pairsFrom (L : Int × Int) (M : List Mark) (i : Nat) : Nat → List (Nat × Nat)
  | 0 => []
  | n + 1 => pairsRow L M i (i + 1) n ++ pairsFrom L M (i + 1) n
theorem row_head {L : Int × Int} {M : List Mark} {i : Nat} : ∀ {n k : Nat}, (pairsRow L M i k n).head? = clashRow L M i k n
  | 0, k => rfl
  | n + 1, k => by
    unfold pairsRow clashRow
    split
    · rfl
    · exact row_head
theorem from_head {L : Int × Int} {M : List Mark} : ∀ {n i : Nat}, (pairsFrom L M i n).head? = clashFrom L M i n
  | 0, i => rfl
  | n + 1, i => by
    have ih := from_head (L := L) (M := M) (n := n) (i := i + 1)
    have h1 := row_head (L := L) (M := M) (i := i) (n := n) (k := i + 1)
    unfold pairsFrom clashFrom
    cases hr : clashRow L M i (i + 1) n with
    | none =>
      rw [hr] at h1
      have : pairsRow L M i (i + 1) n = [] := List.head?_eq_none_iff.1 h1
      rw [this]; exact ih
    | some r =>
      rw [hr] at h1
      cases hp : pairsRow L M i (i + 1) n with
      | nil => rw [hp] at h1; cases h1
      | cons a l => rw [hp] at h1; exact h1
def allPairs (L : Int × Int) (M : List Mark) : List (Nat × Nat) := pairsFrom L M 0 M.length
theorem pairs_head {L : Int × Int} {M : List Mark} : (allPairs L M).head? = clashL L M := from_head
def pairI (l : List (Nat × Nat)) : List (List Value) := l.map fun p => [.int .i64 p.1, .int .i64 p.2]

theorem Tris.from {H : AHeap} {M : List Mark} {v : Value} (h : Tris H M v) {H' : AHeap} {lo : Int} {k : IntKind} (hn : 0 < M.length) (h0 : 0 ≤ lo) (h1 : lo ≤ M.length) : sliceR 3 v (some (.int k lo)) none none H' = some (fromV 3 v lo.toNat, H') := Sl.from h hn h0 h1
theorem Tris.rest {H : AHeap} {M : List Mark} {v : Value} (h : Tris H M v) {lo : Nat} (h1 : lo ≤ M.length) : Tris H (M.drop lo) (fromV 3 v lo) := by
  have := Sl.rest h h1
  unfold Tris
  rw [List.length_drop, ← flat3_drop]
  exact this
theorem getD_drop_mark {M : List Mark} {i j : Nat} : (M.drop i).getD j (0, 0, 0) = M.getD (i + j) (0, 0, 0) := by
  rw [List.getD_eq_getElem?_getD, List.getD_eq_getElem?_getD, List.getElem?_drop]

section
variable {H : AHeap} {L : Int × Int} {M : List Mark} {v : Value}
theorem open_c (hl : Tris H M v) (hb : M.length ≤ 1000000000) : ACall Go.Proofs.Tryz.prog 48 [evV L v] H fun w H' => w = .tuple #[evV L v, .int .i64 (evErrL L M)] ∧ Ext H H' := by
  (refine a48 ?_; simp only [n48, List.replicate, yq, yr, yt, yu]; first | refine q1 ?_ | refine q2 ?_ | refine q6 ?_ | refine q7 ?_ | refine qh rfl ?_ | skip)
  obtain ⟨G, hG⟩ : ∃ G, G = H ++ [AObj.cells true 0 (evC L v)] ++ [AObj.cells true 0 [.int .i64 0, .int .i64 0, .slice none 0 0]] := ⟨_, rfl⟩
  have g0 : G[H.length]? = some (.cells true 0 (evC L v)) := by rw [hG]; simp
  have g1 : G[H.length + 1]? = some (.cells true 0 [.int .i64 0, .int .i64 0, .slice none 0 0]) := by rw [hG]; simp
  have xG : Ext H G := by rw [hG]; exact ((Ext.refl H).app _).app _
  (repeat (first | refine yv ?_ | (apply yd; simp (disch := first|exact zz|fail) only [go_sem, box_ev hl.atom]; with_reducible rfl)))
  (simp only [List.length_append, List.length_cons, List.length_nil, Nat.zero_add, Nat.add_assoc, Nat.reduceAdd])
  rw [← hG]
  clear hG
  (repeat (first | refine yw ?_ | ((first | apply yd | apply ye); simp (disch := first|exact zz|fail) only [go_sem, load_ev g0]; with_reducible rfl)))
  (refine aops_call_to (checkEv_c (hl.ext xG) hb) ?_)
  have hf : fillA [.int .i64 0, .int .i64 0, .slice none 0 0] [(0, 3, evV L v)] = some (evC L v) := by
    have e1 : (evV L v).cells = ⟨evC L v⟩ := rfl
    have e2 : (evC L v).all isAtom = true := by simp [evC, hl.atom, isAtom_int]
    simp only [fillA, e1, e2, setCells]
    simp [evC]
  have hst := store_all (n := 3) (us := evC L v) g1 rfl (by simp [evC, hl.atom, isAtom_int]) rfl
  (repeat (first | refine yw ?_ | ((first | apply yd | apply ye); simp (disch := first|exact zz|fail) only [go_sem, load_ev g0, hf, hst]; with_reducible rfl)))
  refine fin_l2 (u := evV L v) (loadN_at (k := 0) (get_set_self g1) (by simp [evC])) ⟨rfl, xG.set (by omega) _⟩
theorem carried_c {i : Nat} {q : Int} (hv : isAtom v = true) (hk : EvOk L M) (hi : i < M.length) (hq : 0 ≤ q ∧ q ≤ 1000000) :
    ACall Go.Proofs.Tryz.prog 78 [evV L v, markV (M.getD i (0, 0, 0)), .int .i64 q] H fun w H' => w = fracV (byR L (M.getD i (0, 0, 0)) q) ∧ H' = H := by
  refine ACall.drop (closed_frac _) ?_
  obtain ⟨m1, m2⟩ := byR_bound hk hi hq
  have t1 := hk.t1 i hi
  have t2 := hk.t2 i hi
  have hp := hk.pos i hi
  have er : byR L (M.getD i (0, 0, 0)) q = ((M.getD i (0, 0, 0)).2.1 + min (L.1 * (q - (M.getD i (0, 0, 0)).1)) (L.2 * (q - (M.getD i (0, 0, 0)).1)), (M.getD i (0, 0, 0)).2.2 + max (L.1 * (q - (M.getD i (0, 0, 0)).1)) (L.2 * (q - (M.getD i (0, 0, 0)).1))) := rfl
  rw [er]
  generalize M.getD i (0, 0, 0) = x at *
  obtain ⟨a, ha⟩ : ∃ a, L.1 * (q - x.1) = a := ⟨_, rfl⟩
  obtain ⟨b, hb⟩ : ∃ b, L.2 * (q - x.1) = b := ⟨_, rfl⟩
  rw [ha, hb]
  rw [ha] at m1
  rw [hb] at m2
  (refine a78 ?_; simp only [n78, List.replicate, yq, yr, yt, yu]; first | refine q1 ?_ | refine q2 ?_ | refine q6 ?_ | refine q7 ?_ | refine qh rfl ?_ | skip)
  obtain ⟨G, hG⟩ : ∃ G, G = H ++ [AObj.cells true 0 (evC L v)] ++ [AObj.cells true 0 (markC x)] ++ [AObj.cells true 0 [.int .i64 0, .int .i64 0]] := ⟨_, rfl⟩
  have g0 : G[H.length]? = some (.cells true 0 (evC L v)) := by rw [hG]; simp
  have g1 : G[H.length + 1]? = some (.cells true 0 (markC x)) := by rw [hG]; simp
  have g2 : G[H.length + 2]? = some (.cells true 0 [.int .i64 0, .int .i64 0]) := by rw [hG]; simp
  have xG : Ext H G := by rw [hG]; exact (((Ext.refl H).app _).app _).app _
  (repeat (first | refine yv ?_ | (apply yd; simp (disch := first|exact zz|fail) only [go_sem, box_ev hv, box_mark]; with_reducible rfl)))
  (simp only [List.length_append, List.length_cons, List.length_nil, Nat.zero_add, Nat.add_assoc, Nat.reduceAdd])
  rw [← hG]
  clear hG
  (repeat (first | refine yw ?_ | ((first | apply yd | apply ye); simp (disch := first|exact zz|fail) only [go_sem, load_at g0, load_at g1, evC, markC, ha, hb, fill2i, store_b2 g2]; with_reducible rfl)))
  refine fin_l1 (u := .agg ⟨[.int .i64 (x.2.1 + min a b), .int .i64 (x.2.2 + max a b)]⟩) (loadN_at (k := 0) (get_set_self g2) (by simp)) ⟨rfl, xG.set (by omega) _⟩
theorem clash_c {i k : Nat} (hv : isAtom v = true) (hk : EvOk L M) (hi : i < M.length) (hkl : k < M.length) :
    ACall Go.Proofs.Tryz.prog 96 [evV L v, markV (M.getD i (0, 0, 0)), markV (M.getD k (0, 0, 0))] H fun w H' => w = .bool (clashB L (M.getD i (0, 0, 0)) (M.getD k (0, 0, 0))) ∧ H' = H := by
  refine ACall.drop (.bool _) ?_
  obtain ⟨x, hx⟩ : ∃ x, M.getD i (0, 0, 0) = x := ⟨_, rfl⟩
  obtain ⟨y, hy⟩ : ∃ y, M.getD k (0, 0, 0) = y := ⟨_, rfl⟩
  have hq := hk.pos k hkl
  rw [hx, hy]
  rw [hy] at hq
  (refine a96 ?_; simp only [n96, List.replicate, yq, yr, yt, yu]; first | refine q1 ?_ | refine q2 ?_ | refine q6 ?_ | refine q7 ?_ | refine qh rfl ?_ | skip)
  obtain ⟨G, hG⟩ : ∃ G, G = H ++ [AObj.cells true 0 (evC L v)] ++ [AObj.cells true 0 (markC x)] ++ [AObj.cells true 0 (markC y)] := ⟨_, rfl⟩
  have g0 : G[H.length]? = some (.cells true 0 (evC L v)) := by rw [hG]; simp
  have g1 : G[H.length + 1]? = some (.cells true 0 (markC x)) := by rw [hG]; simp
  have g2 : G[H.length + 2]? = some (.cells true 0 (markC y)) := by rw [hG]; simp
  have xG : Ext H G := by rw [hG]; exact (((Ext.refl H).app _).app _).app _
  (repeat (first | refine yv ?_ | (apply yd; simp (disch := first|exact zz|fail) only [go_sem, box_ev hv, box_mark]; with_reducible rfl)))
  (simp only [List.length_append, List.length_cons, List.length_nil, Nat.zero_add, Nat.add_assoc, Nat.reduceAdd])
  rw [← hG]
  clear hG
  have hc := carried_c (H := G) (v := v) hv hk hi hq
  rw [hx] at hc
  (repeat (first | refine yw ?_ | ((first | apply yd | apply ye); simp (disch := first|exact zz|fail) only [go_sem, load_ev g0, load_mark g1, load_at g2, markC]; with_reducible rfl)))
  (refine aops_call_to (hc) ?_)
  have er : clashB L x y = decide ((byR L x y.1).2 < y.2.1 ∨ y.2.2 < (byR L x y.1).1) := rfl
  rw [er]
  generalize byR L x y.1 = r
  have hst : storeR 2 (.pointer (some ⟨G.length, 0, none⟩)) (fracV r) (G ++ [.cells true 0 [.int .i64 0, .int .i64 0]]) = some (undef, G ++ [.cells true 0 [.int .i64 r.1, .int .i64 r.2]]) := store_new2
  have g3 : (G ++ [AObj.cells true 0 [.int .i64 r.1, .int .i64 r.2]])[G.length]? = some (.cells true 0 [.int .i64 r.1, .int .i64 r.2]) := at_new
  have x3 : Ext G (G ++ [AObj.cells true 0 [.int .i64 r.1, .int .i64 r.2]]) := (Ext.refl G).app _
  (repeat (first | refine yw ?_ | ((first | apply yd | apply ye); simp (disch := first|exact zz|fail) only [go_sem, hst]; with_reducible rfl)))
  generalize (G ++ [AObj.cells true 0 [.int .i64 r.1, .int .i64 r.2]] : AHeap) = G3 at g3 x3
  have k2 := x3.cell g2
  by_cases h1 : r.2 < y.2.1
  · (repeat (first | refine yw ?_ | ((first | apply yd | apply ye); simp (disch := first|exact zz|fail) only [go_sem, load_at g3, load_at k2, markC, dec_t h1]; with_reducible rfl)))
    refine fin_1 ⟨?_, xG.trans x3⟩
    simp [h1]
  · (repeat (first | refine yw ?_ | ((first | apply yd | apply ye); simp (disch := first|exact zz|fail) only [go_sem, load_at g3, load_at k2, markC, dec_f h1]; with_reducible rfl)))
    refine fin_1 ⟨?_, xG.trans x3⟩
    simp [h1]
set_option maxHeartbeats 4000000 in
theorem clashes_c (hk : EvOk L M) : GenB Go.Proofs.Tryz.prog 77 [evV L v] [] (fun H => Tris H M v) (pairI (allPairs L M)) := by
  intro lp I S H hF happ hpriv hset hround h0
  show ACall _ _ [evV L v, .func (.yield lp) #[] #[]] _ _
  have hl := hF _ _ _ h0
  have hlen := hk.len
  (refine a77 ?_; simp only [n77, List.replicate, yq, yr, yt, yu]; first | refine q1 ?_ | refine q2 ?_ | refine q6 ?_ | refine q7 ?_ | refine qh rfl ?_ | skip)
  have hB0 := hpriv _ _ _ (AObj.cells true 0 (evC L v)) h0
  have hc0 : (H ++ [AObj.cells true 0 (evC L v)])[H.length]? = some (AObj.cells true 0 (evC L v)) := at_new
  have hlG := hl.ext ((Ext.refl H).app [AObj.cells true 0 (evC L v)])
  (repeat (first | refine yv ?_ | (apply yd; simp (disch := first|exact zz|fail) only [go_sem, box_ev hl.atom]; with_reducible rfl)))
  generalize H ++ [AObj.cells true 0 (evC L v)] = G at hB0 hc0 hlG
  (repeat (first | refine yw ?_ | ((first | apply yd | apply ye); simp (disch := first|exact zz|fail) only [go_sem, hlG.len, hlG.idx, hlG.load, load_at hc0, evC]; with_reducible rfl)))
  refine awp_loop_n [false, true, true, false, false, false, false, false, false, false, true, true, true, false, false, false, false, false, false, false, false, false, false, false, false, false, false, false, false, false, false, false, false, false, false, false, false, false, false, false, false, false, false, false, false] M.length (fun i e H' => ∃ B, e = [junk, .func (.yield lp) #[] #[], .pointer (some ⟨H.length, 0, none⟩), junk, junk, junk, junk, junk, junk, junk, v, .int .i64 (M.length : Nat), .int .i64 i, junk, junk, junk, junk, junk, junk, junk, junk, junk, junk, junk, junk, junk, junk, junk, junk, junk, junk, junk, junk, junk, junk, junk, junk, junk, junk, junk, junk, junk, junk, junk, junk] ∧
    B H.length ∧ H'[H.length]? = some (.cells true 0 (evC L v)) ∧ I B (pairI (pairsFrom L M i (M.length - i))) H') ?_ ?_
  · exact ⟨_, by simp [forget], .inr rfl, hc0, hB0⟩
  rintro i e H1 hi ⟨B, rfl, hB, hc, hI⟩
  have hl1 := hF _ _ _ hI
  (refine yg ?_)
  refine cond_p rfl (fun hlt => ?_) (fun hge => ?_)
  rotate_left 1
  · obtain rfl : i = M.length := by omega
    rw [Nat.sub_self] at hI
    (refine yg ?_)
    exact ⟨.inl rfl, undef, rfl, .inl ⟨B, hI⟩⟩
  have hi' : i < M.length := by omega
  obtain ⟨x, hx⟩ : ∃ x, M.getD i (0, 0, 0) = x := ⟨_, rfl⟩
  obtain ⟨n, hn⟩ : ∃ n, n = M.length - (i + 1) := ⟨_, rfl⟩
  rw [show M.length - i = n + 1 by omega] at hI
  (repeat (first | refine yv ?_ | (apply yd; simp (disch := first|exact zz|fail) only [go_sem, hl1.len, hl1.idx, hl1.load, store_new3, hx]; with_reducible rfl)))
  rw [new_mark x]
  have hk5 : H.length ≠ H1.length := by have := (List.getElem?_eq_some_iff.1 hc).1; omega
  have hI5 := hpriv _ _ _ (AObj.cells true 0 (markC x)) hI
  have hc5 : (H1 ++ [AObj.cells true 0 (markC x)])[H1.length]? = some (AObj.cells true 0 (markC x)) := at_new
  replace hc := at_app (N := [AObj.cells true 0 (markC x)]) hc
  generalize H1 ++ [AObj.cells true 0 (markC x)] = G1 at hI5 hc5 hc
  generalize H1.length = k5 at hk5 hI5 hc5
  obtain ⟨B', hI6, hB', hB6⟩ : ∃ B' : Nat → Prop, I B' (pairI (pairsRow L M i (i + 1) n ++ pairsFrom L M (i + 1) n)) G1 ∧ B' H.length ∧ B' k5 := ⟨_, hI5, .inl hB, .inr rfl⟩
  clear hI hB
  have hl2 := hF _ _ _ hI6
  have hfr := hl2.from (H' := G1) (lo := (i : Int) + 1) (k := .i64) (by omega) (by omega) (by omega)
  rw [show ((i : Int) + 1).toNat = i + 1 by omega] at hfr
  have hlen2 : (M.drop (i + 1)).length = n := by rw [List.length_drop]; omega
  have hrest := hl2.rest (lo := i + 1) (by omega)
  (repeat (first | refine yw ?_ | ((first | apply yd | apply ye); simp (disch := first|exact zz|fail) only [go_sem, hrest.len, hrest.idx, hrest.load, load_at hc, evC, hfr, hlen2]; with_reducible rfl)))
  refine awp_loop_n [false, true, true, false, true, true, false, false, false, false, true, true, true, false, false, false, false, false, false, false, false, false, true, true, true, false, false, false, false, false, false, false, false, false, false, false, false, false, false, false, false, false, false, false, false] n (fun j e H' => e = [junk, .func (.yield lp) #[] #[], .pointer (some ⟨H.length, 0, none⟩), junk, .int .i64 i, .pointer (some ⟨k5, 0, none⟩), junk, junk, junk, junk, v, .int .i64 (M.length : Nat), .int .i64 i, junk, junk, junk, junk, junk, junk, junk, junk, junk, fromV 3 v (i + 1), .int .i64 n, .int .i64 j, junk, junk, junk, junk, junk, junk, junk, junk, junk, junk, junk, junk, junk, junk, junk, junk, junk, junk, junk, junk] ∧
    H'[H.length]? = some (.cells true 0 (evC L v)) ∧ H'[k5]? = some (.cells true 0 (markC x)) ∧ I B' (pairI (pairsRow L M i (i + 1 + j) (n - j) ++ pairsFrom L M (i + 1) n)) H') ?_ ?_
  · exact ⟨by simp [forget], hc, hc5, hI6⟩
  rintro j e H2 hj ⟨rfl, hc2, hc52, hI2⟩
  have hl3 := hF _ _ _ hI2
  have hrest2 := hl3.rest (lo := i + 1) (by omega)
  (refine yg ?_)
  refine cond_p rfl (fun hlt2 => ?_) (fun hge2 => ?_)
  rotate_left 1
  · obtain rfl : j = n := by omega
    rw [Nat.sub_self] at hI2
    (refine yg ?_)
    exact ⟨by omega, B', by simp [forget], hB', hc2, by rw [show M.length - (i + 1) = j by omega]; exact hI2⟩
  have hj' : j < n := by omega
  have ey : (M.drop (i + 1)).getD j (0, 0, 0) = M.getD (i + 1 + j) (0, 0, 0) := getD_drop_mark
  obtain ⟨y, hy⟩ : ∃ y, M.getD (i + 1 + j) (0, 0, 0) = y := ⟨_, rfl⟩
  rw [hy] at ey
  (repeat (first | refine yv ?_ | (apply yd; simp (disch := first|exact zz|fail) only [go_sem, hrest2.len, hrest2.idx, hrest2.load, store_new3, ey]; with_reducible rfl)))
  rw [new_mark y]
  have hI3 := happ _ _ _ [AObj.cells true 0 (markC y)] hI2
  have hc3 := at_app (N := [AObj.cells true 0 (markC y)]) hc2
  have hc53 := at_app (N := [AObj.cells true 0 (markC y)]) hc52
  have hc7 : (H2 ++ [AObj.cells true 0 (markC y)])[H2.length]? = some (AObj.cells true 0 (markC y)) := at_new
  generalize H2 ++ [AObj.cells true 0 (markC y)] = G2 at hI3 hc3 hc53 hc7
  have hcl := clash_c (H := G2) (v := v) (L := L) (M := M) (i := i) (k := i + 1 + j) hl.atom hk hi' (by omega)
  rw [hx, hy] at hcl
  rw [show n - j = n - (j + 1) + 1 by omega] at hI3
  (repeat (first | refine yw ?_ | ((first | apply yd | apply ye); simp (disch := first|exact zz|fail) only [go_sem, load_ev hc3, load_mark hc53, load_mark hc7]; with_reducible rfl)))
  (refine aops_call_to (hcl) ?_)
  unfold pairsRow at hI3
  rw [hx, hy] at hI3
  have en : ((i : Int) + 1 + (j : Int)) = ((i + 1 + j : Nat) : Int) := by omega
  cases hcb : clashB L x y with
  | false =>
    rw [hcb] at hI3
    (refine yg ?_)
    refine cond_f rfl ?_
    (refine yg ?_)
    exact ⟨by omega, by simp [forget], hc3, hc53, hI3⟩
  | true =>
    rw [hcb] at hI3
    (repeat (first | refine yw ?_ | ((first | apply yd | apply ye); simp (disch := first|exact zz|fail) only [go_sem, en]; with_reducible rfl)))
    refine aops_call ((hround _ _ _ _ hI3).mono fun w H3 h => ?_)
    rcases h with ⟨rfl, hI4, hp4⟩ | ⟨rfl, hS⟩
    · (refine yg ?_)
      refine cond_f rfl ?_
      (refine yg ?_)
      exact ⟨by omega, by simp [forget], hp4 _ _ hB' hc3, hp4 _ _ hB6 hc53, hI4⟩
    · (refine yg ?_)
      refine cond_t rfl ?_
      (refine yg ?_)
      exact ⟨.inr rfl, undef, rfl, .inr hS⟩
end
end Go.Lq

namespace Go.Lq
open Go
open Go.Proofs

theorem fin_ld {c : RCode} {n a : Nat} {R : Value → AHeap → Prop} {e : Env} {H : AHeap} {w : Value} (h2 : loadR (e.getD a undef) H = some (w, H)) (h : R w H) : Fin ⟨c, n, [.load a]⟩ R .ret e H := by
  refine ⟨.inr rfl, _, ?_, h⟩
  unfold loadR at h2
  split at h2
  · rename_i id' off' hp'
    simp only [Option.map_eq_some_iff, Prod.mk.injEq, and_true] at h2
    obtain ⟨us', h4, rfl⟩ := h2
    simp only [resultA, List.mapM_cons, resA, hp', h4, Option.map_some, List.mapM_nil]
    rfl
  · cases h2
def encAtL (L : Int × Int) (M : List Mark) (q : Int) : (Int × Int) × Int :=
  if firstErr [evErrL L M, (if 0 ≤ q ∧ q ≤ 1000000 then 0 else 2), (if 0 < M.length then 0 else 12)] ≠ 0 then ((0, 0), firstErr [evErrL L M, (if 0 ≤ q ∧ q ≤ 1000000 then 0 else 2), (if 0 < M.length then 0 else 12)])
  else if clashL L M = none then (encTo L M q M.length, 0) else ((0, 0), 13)
theorem ok3 {a : Int} {p q : Prop} [Decidable p] [Decidable q] {x y : Int} (hx : x ≠ 0) (hy : y ≠ 0) (h : firstErr [a, (if p then 0 else x), (if q then 0 else y)] = 0) : a = 0 ∧ p ∧ q := by
  by_cases ha : a = 0
  · rw [ha, firstErr_z] at h
    exact ⟨ha, two_err hx hy h⟩
  · rw [firstErr_e ha] at h; exact absurd h ha
theorem Keeps.of {k : Nat} {G H : AHeap} (h : Ext G H) : Keeps k G H := Keeps.of_ext h

section
variable {H : AHeap} {L : Int × Int} {M : List Mark} {v : Value}
theorem isPossible_c (hl : Tris H M v) (hk : EvOk L M) : ACall Go.Proofs.Tryz.prog 52 [evV L v] H fun w H' => w = .bool (decide (clashL L M = none)) ∧ H' = H := by
  refine ACall.drop (.bool _) ?_
  (refine a52 ?_; simp only [n52, List.replicate, yq, yr, yt, yu]; first | refine q1 ?_ | refine q2 ?_ | refine q6 ?_ | refine q7 ?_ | refine qh rfl ?_ | skip)
  obtain ⟨G, hG⟩ : ∃ G, G = H ++ [AObj.cells true 0 (evC L v)] ++ [AObj.cells true 0 [.bool false]] := ⟨_, rfl⟩
  have g0 : G[H.length]? = some (.cells true 0 (evC L v)) := by rw [hG]; simp
  have g1 : G[H.length + 1]? = some (.cells true 0 [.bool false]) := by rw [hG]; simp
  have xG : Ext H G := by rw [hG]; exact ((Ext.refl H).app _).app _
  have lG : G.length = H.length + 2 := by rw [hG]; simp
  (repeat (first | refine yv ?_ | (apply yd; simp (disch := first|exact zz|fail) only [go_sem, box_ev hl.atom]; with_reducible rfl)))
  (simp only [List.length_append, List.length_cons, List.length_nil, Nat.zero_add, Nat.add_assoc, Nat.reduceAdd])
  rw [← hG]
  clear hG
  (repeat (first | refine yw ?_ | ((first | apply yd | apply ye); simp (disch := first|exact zz|fail) only [go_sem, load_ev g0]; with_reducible rfl)))
  have hlG := hl.ext xG
  refine awp_rangeB (f := 77) (xs := [evV L v]) (ys := []) mo rfl (fun l h => by cases h) (clashes_c hk)
    (fun B rest H' => rest = pairI (allPairs L M) ∧ (∀ b, B b → G.length < b) ∧ Ext G H')
    (fun x H' => x = .ret ∧ allPairs L M ≠ [] ∧ H'[H.length + 1]? = some (.cells true 0 [.bool false]) ∧ Ext H H') ?_ ?_ ?_ ?_ ?_ ?_ ?_ ?_ ?_ ?_
  · rintro B rest H' c ⟨h1, h2, h3⟩
    exact ⟨h1, h2, h3.set (Nat.le_refl _) _⟩
  · rintro x H' c ⟨h1, h2, h3, h4⟩
    exact ⟨h1, h2, by rw [List.getElem?_set_ne (by omega)]; exact h3, h4.set (by omega) _⟩
  · rintro B rest H' ⟨h1, h2, h3⟩
    exact hlG.ext h3
  · rintro B rest H' N ⟨h1, h2, h3⟩
    exact ⟨h1, h2, h3.app N⟩
  · rintro B rest H' c ⟨h1, h2, h3⟩ hlt
    refine ⟨h1, fun b hb => ?_, h3.app _⟩
    rcases hb with hb | rfl
    · exact h2 b hb
    · exact hlt
  · rintro B b rest H' c hB ⟨h1, h2, h3⟩
    exact ⟨h1, h2, h3.set (by have := h2 b hB; omega) _⟩
  · intro N
    exact ⟨rfl, fun b h => h.elim, (Ext.refl G).app N⟩
  · rintro B a rest H1 hBl ⟨h1, h2, h3⟩ hlt
    have hne : allPairs L M ≠ [] := fun h => by rw [h] at h1; cases h1
    have ha : a.length = 2 := by
      cases hp : allPairs L M with
      | nil => exact absurd hp hne
      | cons p l => rw [hp] at h1; obtain ⟨rfl, _⟩ := List.cons.inj h1; rfl
    match a, ha with
    | [a1, a2], _ =>
    refine ⟨rfl, fun R Rb _ hR => ?_⟩
    simp only [assignParams, List.zip_cons_cons, List.zip_nil_left, List.foldl_cons, List.foldl_nil]
    (refine yg ?_)
    refine ⟨rfl, hR, ?_⟩
    have hRb : (H1.set G.length Rb)[G.length]? = some Rb := get_set_self hR
    have x5 : Ext G (H1.set G.length Rb) := h3.set (Nat.le_refl _) _
    generalize (H1.set G.length Rb : AHeap) = H2 at hRb x5
    have b2 := x5.cell g1
    (repeat (first | refine yw ?_ | ((first | apply yd | apply ye); simp (disch := first|exact zz|fail) only [go_sem, store_b1 b2 (y := .bool false) rfl rfl]; with_reducible rfl)))
    refine rounded_r ?_ ⟨rfl, hne, get_set_self b2, (xG.trans x5).set (by omega) _⟩
    rw [List.getElem?_set_ne (by omega)]; exact hRb
  · rintro B H' ⟨h1, h2, h3⟩
    have b2 := h3.cell g1
    have hn : clashL L M = none := by
      rw [← pairs_head]
      cases hp : allPairs L M with
      | nil => rfl
      | cons p l => rw [hp] at h1; cases h1
    (repeat (first | refine yw ?_ | ((first | apply yd | apply ye); simp (disch := first|exact zz|fail) only [go_sem, store_b1 b2 (y := .bool true) rfl rfl]; with_reducible rfl)))
    refine fin_ld (w := .bool true) (load1 (get_set_self b2)) ⟨by simp [hn], (xG.trans h3).set (by omega) _⟩
  · rintro x H' hx ⟨rfl, h1, h2, h3⟩
    have hn : clashL L M ≠ none := by
      rw [← pairs_head]
      cases hp : allPairs L M with
      | nil => exact absurd hp h1
      | cons p l => simp
    (refine yg ?_)
    refine fin_ld (w := .bool false) (load1 h2) ⟨by simp [hn], h3⟩

set_option maxHeartbeats 4000000 in
theorem enclosure_c {q : Int} (hl : Tris H M v) (hk : EvOk L M) (h0 : 0 < M.length) (hq : 0 ≤ q ∧ q ≤ 1000000) : ACall Go.Proofs.Tryz.prog 53 [evV L v, .int .i64 q] H fun w H' => w = fracV (encTo L M q M.length) ∧ H' = H := by
  refine ACall.drop (closed_frac _) ?_
  have hlen := hk.len
  (refine a53 ?_; simp only [n53, List.replicate, yq, yr, yt, yu]; first | refine q1 ?_ | refine q2 ?_ | refine q6 ?_ | refine q7 ?_ | refine qh rfl ?_ | skip)
  obtain ⟨G, hG⟩ : ∃ G, G = H ++ [AObj.cells true 0 (evC L v)] ++ [AObj.cells true 0 [.int .i64 0, .int .i64 0]] := ⟨_, rfl⟩
  have g0 : G[H.length]? = some (.cells true 0 (evC L v)) := by rw [hG]; simp
  have g1 : G[H.length + 1]? = some (.cells true 0 [.int .i64 0, .int .i64 0]) := by rw [hG]; simp
  have xG : Ext H G := by rw [hG]; exact ((Ext.refl H).app _).app _
  have lG : G.length = H.length + 2 := by rw [hG]; simp
  (repeat (first | refine yv ?_ | (apply yd; simp (disch := first|exact zz|fail) only [go_sem, box_ev hl.atom]; with_reducible rfl)))
  (simp only [List.length_append, List.length_cons, List.length_nil, Nat.zero_add, Nat.add_assoc, Nat.reduceAdd])
  rw [← hG]
  clear hG
  have hlG := hl.ext xG
  have hm0 := (hlG.load (Ext.refl G) (i := 0) h0).1
  have hix := hlG.idx (H' := G) (i := 0) (k := .i64) (by omega) (by omega)
  rw [show ((0 : Int).toNat * 3) = 0 * 3 from rfl] at hix
  (repeat (first | refine yw ?_ | ((first | apply yd | apply ye); simp (disch := first|exact zz|fail) only [go_sem, load_ev g0, load_at g0, evC, hix, hm0]; with_reducible rfl)))
  refine adraw_call (N := []) (firstD (carried_c (v := v) hl.atom hk h0 hq)) ?_
  rw [List.append_nil]
  obtain ⟨r, hr⟩ : ∃ r, byR L (M.getD 0 (0, 0, 0)) q = r := ⟨_, rfl⟩
  have hr1 : encTo L M q (0 + 1) = r := hr
  rw [hr]
  have hfr := hlG.from (H' := G ++ [AObj.cells true 0 [.int .i64 r.1, .int .i64 r.2]]) (lo := 1) (k := .i64) (by omega) (by omega) (by omega)
  rw [show ((1 : Int).toNat) = 1 from rfl] at hfr
  obtain ⟨n, hn⟩ : ∃ n, n = M.length - 1 := ⟨_, rfl⟩
  have hlen2 : (M.drop 1).length = n := by rw [List.length_drop]; omega
  have hrest := hlG.rest (lo := 1) (by omega)
  have g2 := at_app (N := [AObj.cells true 0 [.int .i64 r.1, .int .i64 r.2]]) g0
  have g3 : (G ++ [AObj.cells true 0 [.int .i64 r.1, .int .i64 r.2]])[G.length]? = some (.cells true 0 [.int .i64 r.1, .int .i64 r.2]) := at_new
  have x2 : Ext G (G ++ [AObj.cells true 0 [.int .i64 r.1, .int .i64 r.2]]) := (Ext.refl G).app _
  (repeat (first | refine yw ?_ | ((first | apply yd | apply ye); simp (disch := first|exact zz|fail) only [go_sem, hrest.len, hrest.idx, hrest.load, load_at g2, evC, hfr, hlen2, fracV]; with_reducible rfl)))
  generalize (G ++ [AObj.cells true 0 [.int .i64 r.1, .int .i64 r.2]] : AHeap) = G2 at g2 g3 x2 hfr
  refine awp_loop_n [false, true, true, false, true, true, false, false, false, false, false, false, false, false, false, false, false, false, false, false, true, true, true, false, false, false, false, false, false, false, false, false, false, false, false, false, false, false, false, false, false, false, false] n (fun j e H' => e = [junk, .int .i64 q, .pointer (some ⟨H.length, 0, none⟩), junk, .pointer (some ⟨H.length + 1, 0, none⟩), .pointer (some ⟨G.length, 0, none⟩), junk, junk, junk, junk, junk, junk, junk, junk, junk, junk, junk, junk, junk, junk, fromV 3 v 1, .int .i64 n, .int .i64 j, junk, junk, junk, junk, junk, junk, junk, junk, junk, junk, junk, junk, junk, junk, junk, junk, junk, junk, junk, junk] ∧
    Ext G H' ∧ H'[G.length]? = some (.cells true 0 [.int .i64 (encTo L M q (j + 1)).1, .int .i64 (encTo L M q (j + 1)).2])) ?_ ?_
  · exact ⟨by simp [forget], x2, by rw [hr1]; exact g3⟩
  rintro j e H2 hj ⟨rfl, x3, hc⟩
  have hrest2 := hrest.ext x3
  (refine yg ?_)
  refine cond_p rfl (fun hlt2 => ?_) (fun hge2 => ?_)
  rotate_left 1
  · obtain rfl : j = n := by omega
    have k1 := x3.cell g1
    rw [show j + 1 = M.length by omega] at hc
    (repeat (first | refine yw ?_ | ((first | apply yd | apply ye); simp (disch := first|exact zz|fail) only [go_sem, n2_at hc, store_b2 k1]; with_reducible rfl)))
    refine fin_l1 (u := fracV (encTo L M q M.length)) (loadN_at (k := 0) (get_set_self k1) (by simp)) ⟨rfl, (xG.trans x3).set (by omega) _⟩
  have hj' : j < n := by omega
  have ey : (M.drop 1).getD j (0, 0, 0) = M.getD (1 + j) (0, 0, 0) := getD_drop_mark
  have k0 := x3.cell g0
  have b1 := encTo_bound hk hq (i := j + 1) (by omega)
  have es : encTo L M q (j + 1 + 1) = (max (encTo L M q (j + 1)).1 (byR L (M.getD (1 + j) (0, 0, 0)) q).1, min (encTo L M q (j + 1)).2 (byR L (M.getD (1 + j) (0, 0, 0)) q).2) := by
    rw [Nat.add_comm 1 j]; rfl
  obtain ⟨y, hy⟩ : ∃ y, M.getD (1 + j) (0, 0, 0) = y := ⟨_, rfl⟩
  have hcr := fun J => carried_c (H := J) (v := v) (L := L) (M := M) (i := 1 + j) hl.atom hk (by omega) hq
  rw [hy] at ey es hcr
  obtain ⟨s, hs⟩ : ∃ s, byR L y q = s := ⟨_, rfl⟩
  rw [hs] at es hcr
  (repeat (first | refine yv ?_ | (apply yd; simp (disch := first|exact zz|fail) only [go_sem, hrest2.len, hrest2.idx, hrest2.load, store_new3, ey]; with_reducible rfl)))
  rw [new_mark y]
  have k0 := at_app (N := [AObj.cells true 0 (markC y)]) k0
  have hc := at_app (N := [AObj.cells true 0 (markC y)]) hc
  have hc7 : (H2 ++ [AObj.cells true 0 (markC y)])[H2.length]? = some (AObj.cells true 0 (markC y)) := at_new
  have x3 := x3.app [AObj.cells true 0 (markC y)]
  generalize H2 ++ [AObj.cells true 0 (markC y)] = G3 at k0 hc hc7 x3
  (repeat (first | refine yw ?_ | ((first | apply yd | apply ye); simp (disch := first|exact zz|fail) only [go_sem, load_ev k0, load_mark hc7]; with_reducible rfl)))
  (refine aops_call_to (hcr G3) ?_)
  have hst : storeR 2 (.pointer (some ⟨G3.length, 0, none⟩)) (fracV s) (G3 ++ [.cells true 0 [.int .i64 0, .int .i64 0]]) = some (undef, G3 ++ [.cells true 0 [.int .i64 s.1, .int .i64 s.2]]) := store_new2
  (repeat (first | refine yw ?_ | ((first | apply yd | apply ye); simp (disch := first|exact zz|fail) only [go_sem, hst]; with_reducible rfl)))
  have hc8 : (G3 ++ [AObj.cells true 0 [.int .i64 s.1, .int .i64 s.2]])[G3.length]? = some (AObj.cells true 0 [.int .i64 s.1, .int .i64 s.2]) := at_new
  have hc := at_app (N := [AObj.cells true 0 [.int .i64 s.1, .int .i64 s.2]]) hc
  have x3 := x3.app [AObj.cells true 0 [.int .i64 s.1, .int .i64 s.2]]
  generalize G3 ++ [AObj.cells true 0 [.int .i64 s.1, .int .i64 s.2]] = G4 at hc hc8 x3
  generalize encTo L M q (j + 1) = u at *
  (repeat (first | refine yw ?_ | ((first | apply yd | apply ye); simp (disch := first|exact zz|fail) only [go_sem, load_at hc, load_at hc8, fill2i, store_b2 hc]; with_reducible rfl)))
  exact ⟨by omega, by simp [forget], x3.set (Nat.le_refl _) _, by rw [es]; exact get_set_self hc⟩
theorem encAt_c {q : Int} (hl : Tris H M v) (hb : M.length ≤ 1000000000) : ACall Go.Proofs.Tryz.prog 21 [evV L v, .int .i64 q] H fun w H' => w = .tuple #[fracV (encAtL L M q).1, .int .i64 (encAtL L M q).2] ∧ H' = H := by
  refine ACall.drop (closed_frac1 _ _) ?_
  (refine a21 ?_; simp only [n21, List.replicate, yq, yr, yt, yu]; first | refine q1 ?_ | refine q2 ?_ | refine q6 ?_ | refine q7 ?_ | refine qh rfl ?_ | skip)
  obtain ⟨G, hG⟩ : ∃ G, G = H ++ [AObj.cells true 0 (evC L v)] ++ [AObj.cells true 0 [.int .i64 0, .int .i64 0]] := ⟨_, rfl⟩
  have g0 : G[H.length]? = some (.cells true 0 (evC L v)) := by rw [hG]; simp
  have g1 : G[H.length + 1]? = some (.cells true 0 [.int .i64 0, .int .i64 0]) := by rw [hG]; simp
  have xG : Ext H G := by rw [hG]; exact ((Ext.refl H).app _).app _
  (repeat (first | refine yv ?_ | (apply yd; simp (disch := first|exact zz|fail) only [go_sem, box_ev hl.atom]; with_reducible rfl)))
  (simp only [List.length_append, List.length_cons, List.length_nil, Nat.zero_add, Nat.add_assoc, Nat.reduceAdd])
  rw [← hG]
  clear hG
  (repeat (first | refine yw ?_ | ((first | apply yd | apply ye); simp (disch := first|exact zz|fail) only [go_sem, load_ev g0]; with_reducible rfl)))
  refine aops_call ((open_c (hl.ext xG) hb).mono fun w G2 ⟨hw, x2⟩ => ?_)
  subst hw
  have hst : storeR 3 (.pointer (some ⟨G2.length, 0, none⟩)) (evV L v) (G2 ++ [.cells true 0 [.int .i64 0, .int .i64 0, .slice none 0 0]]) = some (undef, G2 ++ [.cells true 0 (evC L v)]) := store_newN (by simp [hl.atom, isAtom_int]) rfl rfl
  (repeat (first | refine yw ?_ | ((first | apply yd | apply ye); simp (disch := first|exact zz|fail) only [go_sem, hst]; with_reducible rfl)))
  have k6 : (G2 ++ [AObj.cells true 0 (evC L v)])[G2.length]? = some (.cells true 0 (evC L v)) := at_new
  have x3 := x2.app [AObj.cells true 0 (evC L v)]
  generalize (G2 ++ [AObj.cells true 0 (evC L v)] : AHeap) = G3 at k6 x3
  have xH3 := xG.trans x3
  have hl3 := hl.ext xH3
  have k0 := x3.cell g0
  have k1 := x3.cell g1
  (refine yg ?_)
  (refine adraw_call (N := []) (firstD (isPosition_c _)) ?_; rw [List.append_nil])
  (refine yg ?_)
  (refine adraw_call (N := []) (firstD (sunless_c _ _)) ?_; rw [List.append_nil])
  (repeat (first | refine yw ?_ | ((first | apply yd | apply ye); simp (disch := first|exact zz|fail) only [go_sem, hl3.len, hl3.idx, hl3.load, load_at k0, evC]; with_reducible rfl)))
  (refine adraw_call (N := []) (firstD (sunless_c _ _)) ?_; rw [List.append_nil])
  (refine yg ?_)
  (refine adraw_call (N := []) (firstD (sfirst_c (l := [_, _, _]) (Ints.last (l := [_, _, _]) 3) (by simp))) ?_; rw [List.append_nil])
  have e1 : firstErr [evErrL L M, (if decide (0 ≤ q ∧ q ≤ 1000000) = true then 0 else 2), (if decide ((0 : Int) < (M.length : Int)) = true then 0 else 12)] = firstErr [evErrL L M, (if 0 ≤ q ∧ q ≤ 1000000 then 0 else 2), (if 0 < M.length then 0 else 12)] := by
    simp only [decide_eq_true_eq, Int.natCast_pos]
  rw [e1]
  have x4 := x3.app [AObj.cells true 1 [.int .i64 (evErrL L M), .int .i64 (if decide (0 ≤ q ∧ q ≤ 1000000) = true then 0 else 2), .int .i64 (if decide ((0 : Int) < (M.length : Int)) = true then 0 else 12)]]
  have k6 := at_app (N := [AObj.cells true 1 [.int .i64 (evErrL L M), .int .i64 (if decide (0 ≤ q ∧ q ≤ 1000000) = true then 0 else 2), .int .i64 (if decide ((0 : Int) < (M.length : Int)) = true then 0 else 12)]]) k6
  generalize (G3 ++ [AObj.cells true 1 [.int .i64 (evErrL L M), .int .i64 (if decide (0 ≤ q ∧ q ≤ 1000000) = true then 0 else 2), .int .i64 (if decide ((0 : Int) < (M.length : Int)) = true then 0 else 12)]] : AHeap) = G4 at x4 k6
  have k1 := x4.cell g1
  have xH4 := xG.trans x4
  have hl4 := hl.ext xH4
  (refine yg ?_)
  refine cond_p rfl (fun hne => ?_) (fun heq => ?_)
  · have ev : encAtL L M q = ((0, 0), firstErr [evErrL L M, (if 0 ≤ q ∧ q ≤ 1000000 then 0 else 2), (if 0 < M.length then 0 else 12)]) := by unfold encAtL; rw [if_pos hne]
    rw [ev]
    (repeat (first | refine yw ?_ | ((first | apply yd | apply ye); simp (disch := first|exact zz|fail) only [go_sem, fill_none, store_b2 k1]; with_reducible rfl)))
    refine fin_l2f rfl (get_set_self k1) ⟨rfl, xH4.set (by omega) _⟩
  obtain ⟨z1, z2, z3⟩ := ok3 (by decide) (by decide) (Decidable.not_not.1 heq)
  have ev : encAtL L M q = if clashL L M = none then (encTo L M q M.length, 0) else ((0, 0), 13) := by unfold encAtL; rw [if_neg heq]
  have hk := evErr_ok z1
  (repeat (first | refine yw ?_ | ((first | apply yd | apply ye); simp (disch := first|exact zz|fail) only [go_sem, load_ev k6]; with_reducible rfl)))
  (refine aops_call_to (isPossible_c hl4 hk) ?_)
  by_cases hc : clashL L M = none
  · rw [if_pos hc] at ev
    rw [ev]
    (repeat (first | refine yw ?_ | ((first | apply yd | apply ye); simp (disch := first|exact zz|fail) only [go_sem, dec_t hc]; with_reducible rfl)))
    refine cond_f rfl ?_
    (repeat (first | refine yw ?_ | ((first | apply yd | apply ye); simp (disch := first|exact zz|fail) only [go_sem, load_ev k6]; with_reducible rfl)))
    (refine aops_call_to (enclosure_c hl4 hk z3 z2) ?_)
    have hst2 : storeR 2 (.pointer (some ⟨H.length + 1, 0, none⟩)) (fracV (encTo L M q M.length)) G4 = some (undef, G4.set (H.length + 1) (.cells true 0 [.int .i64 (encTo L M q M.length).1, .int .i64 (encTo L M q M.length).2])) := store_b2 k1
    (repeat (first | refine yw ?_ | ((first | apply yd | apply ye); simp (disch := first|exact zz|fail) only [go_sem, hst2]; with_reducible rfl)))
    refine fin_l2f rfl (get_set_self k1) ⟨rfl, xH4.set (by omega) _⟩
  · rw [if_neg hc] at ev
    rw [ev]
    (repeat (first | refine yw ?_ | ((first | apply yd | apply ye); simp (disch := first|exact zz|fail) only [go_sem, dec_f hc]; with_reducible rfl)))
    refine cond_t rfl ?_
    (repeat (first | refine yw ?_ | ((first | apply yd | apply ye); simp (disch := first|exact zz|fail) only [go_sem, fill_none, store_b2 k1]; with_reducible rfl)))
    refine fin_l2f rfl (get_set_self k1) ⟨rfl, xH4.set (by omega) _⟩
end
end Go.Lq

namespace Go.Lq
open Go
open Go.Proofs

theorem fin_l3 {c : RCode} {n a b d m : Nat} {R : Value → AHeap → Prop} {e : Env} {H : AHeap} {u : Value} (h1 : loadNR m (e.getD a undef) H = some (u, H)) (h : R (.tuple #[u, e.getD b undef, e.getD d undef]) H) :
    Fin ⟨c, n, [.loadN m a, .tmp b, .tmp d]⟩ R .ret e H := by
  refine ⟨.inr rfl, _, ?_, h⟩
  unfold loadNR at h1
  split at h1
  · rename_i id off hp
    simp only [Option.map_eq_some_iff, Prod.mk.injEq, and_true] at h1
    obtain ⟨us, h3, rfl⟩ := h1
    simp only [resultA, List.mapM_cons, resA, hp, h3, Option.map_some, List.mapM_nil]
    rfl
  · cases h1
theorem closed_frac2 (p : Int × Int) (a e : Int) : Closed (.tuple #[fracV p, .int .i64 a, .int .i64 e]) := .tuple _ (closed_list (l := [fracV p, .int .i64 a, .int .i64 e]) fun v hv => by
  simp only [List.mem_cons, List.not_mem_nil, or_false] at hv
  rcases hv with rfl | rfl | rfl
  · exact closed_frac p
  · exact .int _ _
  · exact .int _ _)
def lowS (n d : Int) : (Int × Int) × Int := if 1000000000 < (lowF n d).1 then ((0, 0), 8) else (lowF n d, 0)
def chordL (l : List (Int × Int)) : (Int × Int) × (Int × Int) := (l.getD 0 (0, 0), l.getD (l.length - 1) (0, 0))
def devL (l : List (Int × Int)) (i : Nat) : Int := (l.getD i (0, 0)).2 * ((chordL l).2.1 - (chordL l).1.1) - timN (chordL l) (l.getD i (0, 0)).1
def wowTo (l : List (Int × Int)) : Nat → Int × Nat
  | 0 => (0, 0)
  | i + 1 => if (wowTo l i).1 < max (devL l i) (-devL l i) then (max (devL l i) (-devL l i), i) else wowTo l i
def wowD (l : List (Int × Int)) : (Int × Int) × Int := lowS (wowTo l l.length).1 ((chordL l).2.1 - (chordL l).1.1)
def wowL (l : List (Int × Int)) : (Int × Int) × Int × Int :=
  if mapErrL l ≠ 0 then ((0, 0), 0, mapErrL l) else if (wowD l).2 ≠ 0 then ((0, 0), 0, (wowD l).2) else ((wowD l).1, ((wowTo l l.length).2 : Int), 0)
theorem chord_ok {l : List (Int × Int)} (h : MapOk l) {i : Nat} (hi : i < l.length) : (0 ≤ (chordL l).1.1 ∧ (chordL l).1.1 ≤ 1000000) ∧ (0 ≤ (chordL l).2.1 ∧ (chordL l).2.1 ≤ 1000000) ∧ (0 ≤ (chordL l).1.2 ∧ (chordL l).1.2 ≤ 1000000000000) ∧ (0 ≤ (chordL l).2.2 ∧ (chordL l).2.2 ≤ 1000000000000) ∧
    (chordL l).1.1 < (chordL l).2.1 ∧ (chordL l).1.2 < (chordL l).2.2 ∧ (chordL l).1.1 ≤ (l.getD i (0, 0)).1 ∧ (l.getD i (0, 0)).1 ≤ (chordL l).2.1 ∧ (chordL l).1.2 ≤ (l.getD i (0, 0)).2 ∧ (l.getD i (0, 0)).2 ≤ (chordL l).2.2 := by
  have h2 := h.lo
  have a := h.posLt (k := l.length - 2) (i := 0) (by omega)
  have b := h.timeLt (k := l.length - 2) (i := 0) (by omega)
  rw [show 0 + (l.length - 2) + 1 = l.length - 1 by omega] at a b
  exact ⟨h.pos 0 (by omega), h.pos (l.length - 1) (by omega), h.time 0 (by omega), h.time (l.length - 1) (by omega), a, b, h.posLe (Nat.zero_le _) hi, h.posLe (by omega) (by omega), h.timeLe (Nat.zero_le _) hi, h.timeLe (by omega) (by omega)⟩
theorem dev_bound {l : List (Int × Int)} (h : MapOk l) {i : Nat} (hi : i < l.length) : (0 ≤ (l.getD i (0, 0)).2 * ((chordL l).2.1 - (chordL l).1.1) ∧ (l.getD i (0, 0)).2 * ((chordL l).2.1 - (chordL l).1.1) ≤ 1000000000000000000) ∧ (0 ≤ timN (chordL l) (l.getD i (0, 0)).1 ∧ timN (chordL l) (l.getD i (0, 0)).1 ≤ 2000000000000000000) := by
  obtain ⟨p1, p2, p3, p4, p5, p6, h1, h2, _, _⟩ := chord_ok h hi
  have ti := h.time i hi
  obtain ⟨m1, m2⟩ := timN_bound p1 p2 p3 p4 p5 p6 h1 h2
  have a := Int.mul_nonneg ti.1 (show 0 ≤ (chordL l).2.1 - (chordL l).1.1 by omega)
  have b := Int.mul_le_mul ti.2 (show (chordL l).2.1 - (chordL l).1.1 ≤ 1000000 by omega) (by omega) (by decide)
  unfold timN
  omega
theorem wowTo_bound {l : List (Int × Int)} (h : MapOk l) : ∀ {i : Nat}, i ≤ l.length → (0 ≤ (wowTo l i).1 ∧ (wowTo l i).1 ≤ 2000000000000000000) ∧ (wowTo l i).2 ≤ l.length
  | 0, _ => by unfold wowTo; simp
  | i + 1, hi => by
    have ih := wowTo_bound h (i := i) (by omega)
    have b := dev_bound h (i := i) (by omega)
    unfold wowTo
    split
    · unfold devL at *; dsimp only; omega
    · exact ih

section
variable {H : AHeap}
theorem slowest_c (n d : Int) (hn : 0 ≤ n ∧ n ≤ 4000000000000000000) (hd : 0 < d ∧ d ≤ 4000000000000000000) :
    ACall Go.Proofs.Tryz.prog 59 [.int .i64 n, .int .i64 d] H fun v H' => v = .tuple #[fracV (lowS n d).1, .int .i64 (lowS n d).2] ∧ H' = H := by
  have hp := gcdI_pos (n := n) hd.1
  have ne : gcdI n d ≠ 0 := by omega
  obtain ⟨e1, e2⟩ := low_tdiv (n := n) (d := d)
  have b1 := lowF_bound (n := n) (d := d) (m := 4000000000000000000) hd.1 ⟨by omega, by omega⟩
  have b2 := lowF_den_le (n := n) hd.1
  have b3 := lowF_pos (n := n) hd.1
  refine ACall.drop (closed_frac1 _ _) ?_
  (refine a59 ?_; simp only [n59, List.replicate, yq, yr, yt, yu]; first | refine q1 ?_ | refine q2 ?_ | refine q6 ?_ | refine q7 ?_ | refine qh rfl ?_ | skip)
  have g0 : (H ++ [AObj.cells true 0 [.int .i64 0, .int .i64 0]])[H.length]? = some (.cells true 0 [.int .i64 0, .int .i64 0]) := at_new
  have xG : Ext H (H ++ [AObj.cells true 0 [.int .i64 0, .int .i64 0]]) := (Ext.refl H).app _
  (refine yh ?_)
  generalize (H ++ [AObj.cells true 0 [.int .i64 0, .int .i64 0]] : AHeap) = G at g0 xG
  (refine yg ?_)
  refine awp_loop [true, true, false, false, true, false, true, true, false, false, false, false, false, false, false, false, false, false, false, false, false, false, false, false, false, false, false, false] (fun k e H' => H' = G ∧ ∃ a b : Int, k = b.natAbs ∧ gcdI a b = gcdI n d ∧ (0 ≤ a ∧ a ≤ 4000000000000000000) ∧ (0 ≤ b ∧ b ≤ 4000000000000000000) ∧ e = [.int .i64 n, .int .i64 d, junk, junk, .pointer (some ⟨H.length, 0, none⟩), junk, .int .i64 a, .int .i64 b, junk, junk, junk, junk, junk, junk, junk, junk, junk, junk, junk, junk, junk, junk, junk, junk, junk, junk, junk, junk]) d.natAbs ?_ ?_
  · exact ⟨rfl, n, d, rfl, rfl, hn, ⟨by omega, hd.2⟩, by simp [forget]⟩
  rintro k e H' ⟨rfl, a, b, rfl, hg, ha, hb, rfl⟩
  (refine yg ?_)
  refine cond_p rfl (fun hne => ?_) (fun heq => ?_)
  · have hm := tmod_small (a := a) hne
    have hm2 := Int.tmod_nonneg b ha.1
    (repeat (first | refine yw ?_ | ((first | apply yd | apply ye); simp (disch := first|exact zz|fail) only [go_sem, a_rem hne]; with_reducible rfl)))
    exact ⟨_, hm, rfl, b, a.tmod b, rfl, gcdI_step.trans hg, hb, by omega, by simp [forget]⟩
  · have h0 : b = 0 := by omega
    subst h0
    have hga : gcdI n d = a := by rw [← hg, gcdI_zero]; omega
    rw [hga] at hp ne e1 e2
    (repeat (first | refine yw ?_ | ((first | apply yd | apply ye); simp (disch := first|exact zz|fail) only [go_sem, a_quo ne, e1]; with_reducible rfl)))
    refine cond_p rfl (fun hgt => ?_) (fun hle => ?_)
    · have e3 : lowS n d = ((0, 0), 8) := by unfold lowS; rw [if_pos hgt]
      rw [e3]
      (repeat (first | refine yw ?_ | ((first | apply yd | apply ye); simp (disch := first|exact zz|fail) only [go_sem, fill_none, store_b2 g0]; with_reducible rfl)))
      refine fin_l2f rfl (get_set_self g0) ⟨rfl, xG.set (by omega) _⟩
    · have e3 : lowS n d = (lowF n d, 0) := by unfold lowS; rw [if_neg hle]
      rw [e3]
      generalize lowF n d = p at *
      (repeat (first | refine yw ?_ | ((first | apply yd | apply ye); simp (disch := first|exact zz|fail) only [go_sem, a_quo ne, e1, e2, fill2i, store_b2 g0]; with_reducible rfl)))
      refine fin_l2f rfl (get_set_self g0) ⟨rfl, xG.set (by omega) _⟩
set_option maxHeartbeats 4000000 in
theorem wowOf_c {l : List (Int × Int)} {v : Value} (hl : Pairs H l v) (hb : l.length ≤ 1000000000) : ACall Go.Proofs.Tryz.prog 25 [.agg ⟨[v]⟩] H fun w H' =>
    w = .tuple #[fracV (wowL l).1, .int .i64 (wowL l).2.1, .int .i64 (wowL l).2.2] ∧ H' = H := by
  refine ACall.drop (closed_frac2 _ _ _) ?_
  (refine a25 ?_; simp only [n25, List.replicate, yq, yr, yt, yu]; first | refine q1 ?_ | refine q2 ?_ | refine q6 ?_ | refine q7 ?_ | refine qh rfl ?_ | skip)
  obtain ⟨G, hG⟩ : ∃ G, G = H ++ [AObj.cells true 0 [v]] ++ [AObj.cells true 0 [.int .i64 0, .int .i64 0]] := ⟨_, rfl⟩
  have g0 : G[H.length]? = some (.cells true 0 [v]) := by rw [hG]; simp
  have g2 : G[H.length + 1]? = some (.cells true 0 [.int .i64 0, .int .i64 0]) := by rw [hG]; simp
  have xG : Ext H G := by rw [hG]; exact ((Ext.refl H).app _).app _
  have hf1 : fillA [.slice none 0 0] [(0, 1, .agg ⟨[v]⟩)] = some [v] := fill1v hl.atom
  have hms : ∀ J : AHeap, mkSliceL 1 1 (some [v]) J = some (.slice (some ⟨J.length, 0, none⟩) 1 1, J ++ [.cells true 1 [v]]) := fun J => mkSliceL_some (by simp [hl.atom])
  (repeat (first | refine yv ?_ | (apply yd; simp (disch := first|exact zz|fail) only [go_sem, hl.box1]; with_reducible rfl)))
  (simp only [List.length_append, List.length_cons, List.length_nil, Nat.zero_add, Nat.add_assoc, Nat.reduceAdd])
  rw [← hG]
  clear hG
  (repeat (first | refine yw ?_ | ((first | apply yd | apply ye); simp (disch := first|exact zz|fail) only [go_sem, n1_at g0, hf1, hms]; with_reducible rfl)))
  have hS : Sl (G ++ [AObj.cells true 1 [v]]) 1 1 [v] (.slice (some ⟨G.length, 0, none⟩) 1 1) := Sl.last rfl 1
  have x2 : Ext G (G ++ [AObj.cells true 1 [v]]) := (Ext.refl G).app _
  generalize (G ++ [AObj.cells true 1 [v]] : AHeap) = G2 at hS x2
  have xH2 := xG.trans x2
  have k0 := x2.cell g0
  have k2 := x2.cell g2
  (refine aops_call_to (spMapErr_c hS (hl.ext xH2) hb) ?_)
  (refine yg ?_)
  refine cond_p rfl (fun hne => ?_) (fun heq => ?_)
  · have ev : wowL l = ((0, 0), 0, mapErrL l) := by unfold wowL; rw [if_pos hne]
    rw [ev]
    (repeat (first | refine yw ?_ | ((first | apply yd | apply ye); simp (disch := first|exact zz|fail) only [go_sem, fill_none, store_b2 k2]; with_reducible rfl)))
    exact fin_l3 (u := fracV (0, 0)) (loadN_at (k := 0) (get_set_self k2) (by simp)) ⟨rfl, xH2.set (by omega) _⟩
  have hz := Decidable.not_not.1 heq
  have hok := mapErr_ok hz
  have h20 := hok.hi
  have h02 := hok.lo
  have ev : wowL l = if (wowD l).2 ≠ 0 then ((0, 0), 0, (wowD l).2) else ((wowD l).1, ((wowTo l l.length).2 : Int), 0) := by unfold wowL; rw [if_neg heq]
  rw [ev]
  have hl2 := hl.ext xH2
  obtain ⟨a1, -, -, a4, a5⟩ := hl2.load (Ext.refl G2) (i := 0) (by omega)
  obtain ⟨b1, -, -, b4, b5⟩ := hl2.load (Ext.refl G2) (i := l.length - 1) (by omega)
  have i1 := hl2.idx (H' := G2) (i := 0) (k := .i64) (by omega) (by omega)
  have i2 := hl2.idx (H' := G2) (i := (l.length : Int) - 1) (k := .i64) (by omega) (by omega)
  rw [show ((l.length : Int) - 1).toNat = l.length - 1 by omega] at i2
  rw [show (0 : Int).toNat = 0 from rfl] at i1
  have hpb : ∀ a b c d : Int, fillA [.int .i64 0, .int .i64 0, .int .i64 0, .int .i64 0] [(0, 2, .agg ⟨[.int .i64 a, .int .i64 b]⟩), (2, 2, .agg ⟨[.int .i64 c, .int .i64 d]⟩)] = some [.int .i64 a, .int .i64 b, .int .i64 c, .int .i64 d] := fun _ _ _ _ => rfl
  have hst : storeR 4 (.pointer (some ⟨G2.length, 0, none⟩)) (.agg ⟨[.int .i64 (l.getD 0 (0, 0)).1, .int .i64 (l.getD 0 (0, 0)).2, .int .i64 (l.getD (l.length - 1) (0, 0)).1, .int .i64 (l.getD (l.length - 1) (0, 0)).2]⟩) (G2 ++ [.cells true 0 [.int .i64 0, .int .i64 0, .int .i64 0, .int .i64 0]]) = some (undef, G2 ++ [.cells true 0 (pieceC (chordL l))]) := store_new4 (p := chordL l) rfl
  (repeat (first | refine yw ?_ | ((first | apply yd | apply ye); simp (disch := first|exact zz|fail) only [go_sem, load_at k0, hl2.len, i1, i2, a1, b1, hpb, hst]; with_reducible rfl)))
  have c6 : (G2 ++ [AObj.cells true 0 (pieceC (chordL l))])[G2.length]? = some (.cells true 0 (pieceC (chordL l))) := at_new
  have x3 : Ext G2 (G2 ++ [AObj.cells true 0 (pieceC (chordL l))]) := (Ext.refl G2).app _
  generalize (G2 ++ [AObj.cells true 0 (pieceC (chordL l))] : AHeap) = G3 at c6 x3
  have k0 := x3.cell k0
  have k2 := x3.cell k2
  have xH3 := xH2.trans x3
  have hl3 := hl.ext xH3
  obtain ⟨p1, p2, p3, p4, p5, p6, -⟩ := chord_ok hok (i := 0) (by omega)
  clear a1 a4 a5 b1 b4 b5 i1 i2 hst
  (repeat (first | refine yw ?_ | ((first | apply yd | apply ye); simp (disch := first|exact zz|fail) only [go_sem, hl3.len, hl3.idx, hl3.load, load_at k0]; with_reducible rfl)))
  refine awp_loop_n [false, true, true, false, false, false, true, true, true, false, false, false, false, false, false, false, false, false, false, false, false, false, false, false, false, false, false, false, false, false, false, false, false, false, false, false, true, true, true, false, false, false, false, false, false, false, false, false, false, false, false, false, false, false, false, false, false, false, false, false, false, false, false, false, false, false, false, false, false, false, false, false, false, false, false, false] l.length (fun i e H' => e = [junk, .pointer (some ⟨H.length, 0, none⟩), .pointer (some ⟨H.length + 1, 0, none⟩), junk, junk, junk, .pointer (some ⟨G2.length, 0, none⟩), .int .i64 (wowTo l i).1, .int .i64 ((wowTo l i).2 : Int), junk, junk, junk, junk, junk, junk, junk, junk, junk, junk, junk, junk, junk, junk, junk, junk, junk, junk, junk, junk, junk, junk, junk, junk, junk, junk, junk, v, .int .i64 l.length, .int .i64 i, junk, junk, junk, junk, junk, junk, junk, junk, junk, junk, junk, junk, junk, junk, junk, junk, junk, junk, junk, junk, junk, junk, junk, junk, junk, junk, junk, junk, junk, junk, junk, junk, junk, junk, junk, junk, junk] ∧ Ext G3 H') ?_ ?_
  · exact ⟨by simp [forget, wowTo], Ext.refl _⟩
  rintro i e H' hi ⟨rfl, x4⟩
  have c6 := x4.cell c6
  have hll := hl3.ext x4
  (refine yg ?_)
  refine cond_p rfl (fun hlt => ?_) (fun hge => ?_)
  rotate_left 1
  · obtain rfl : i = l.length := by omega
    have bw := (wowTo_bound hok (Nat.le_refl l.length)).1
    have ed : wowD l = lowS (wowTo l l.length).1 ((chordL l).2.1 - (chordL l).1.1) := rfl
    (repeat (first | refine yw ?_ | ((first | apply yd | apply ye); simp (disch := first|exact zz|fail) only [go_sem, load_piece c6]; with_reducible rfl)))
    (refine aops_call_to (positions_c ⟨by omega, by omega⟩) ?_)
    (refine yg ?_)
    refine aops_call_to (slowest_c _ _ ⟨by omega, by omega⟩ ⟨by omega, by omega⟩) ?_
    rw [← ed]
    have hst : storeR 2 (.pointer (some ⟨H'.length, 0, none⟩)) (fracV (wowD l).1) (H' ++ [.cells true 0 [.int .i64 0, .int .i64 0]]) = some (undef, H' ++ [.cells true 0 [.int .i64 (wowD l).1.1, .int .i64 (wowD l).1.2]]) := store_newF
    (repeat (first | refine yw ?_ | ((first | apply yd | apply ye); simp (disch := first|exact zz|fail) only [go_sem, hst]; with_reducible rfl)))
    have c13 : (H' ++ [AObj.cells true 0 [.int .i64 (wowD l).1.1, .int .i64 (wowD l).1.2]])[H'.length]? = some (.cells true 0 [.int .i64 (wowD l).1.1, .int .i64 (wowD l).1.2]) := at_new
    have x5 := (x3.trans x4).app [AObj.cells true 0 [.int .i64 (wowD l).1.1, .int .i64 (wowD l).1.2]]
    generalize (H' ++ [AObj.cells true 0 [.int .i64 (wowD l).1.1, .int .i64 (wowD l).1.2]] : AHeap) = H2 at c13 x5
    have k2 := x5.cell (x2.cell g2)
    have xH5 := xH2.trans x5
    refine cond_p rfl (fun hne => ?_) (fun heq2 => ?_)
    · rw [if_pos hne]
      (repeat (first | refine yw ?_ | ((first | apply yd | apply ye); simp (disch := first|exact zz|fail) only [go_sem, fill_none, store_b2 k2]; with_reducible rfl)))
      exact fin_l3 (u := fracV (0, 0)) (loadN_at (k := 0) (get_set_self k2) (by simp)) ⟨rfl, xH5.set (by omega) _⟩
    · rw [if_neg heq2]
      (repeat (first | refine yw ?_ | ((first | apply yd | apply ye); simp (disch := first|exact zz|fail) only [go_sem, n2_at c13, store_b2 k2]; with_reducible rfl)))
      exact fin_l3 (u := fracV (wowD l).1) (loadN_at (k := 0) (get_set_self k2) (by simp)) ⟨rfl, xH5.set (by omega) _⟩
  have hi' : i < l.length := by omega
  obtain ⟨-, -, -, -, -, -, h1, h2, -, -⟩ := chord_ok hok hi'
  obtain ⟨d1, d2⟩ := dev_bound hok hi'
  have ew : wowTo l (i + 1) = if (wowTo l i).1 < max (devL l i) (-devL l i) then (max (devL l i) (-devL l i), i) else wowTo l i := rfl
  have ed : devL l i = (l.getD i (0, 0)).2 * ((chordL l).2.1 - (chordL l).1.1) - timN (chordL l) (l.getD i (0, 0)).1 := rfl
  have bw := (wowTo_bound hok (Nat.le_of_lt hi')).1
  (repeat (first | refine yv ?_ | (apply yd; simp (disch := first|exact zz|fail) only [go_sem, hll.len, hll.idx, hll.load, store_new2]; with_reducible rfl)))
  have c10 : (H' ++ [AObj.cells true 0 [.int .i64 (l.getD i (0, 0)).1, .int .i64 (l.getD i (0, 0)).2]])[H'.length]? = some (.cells true 0 [.int .i64 (l.getD i (0, 0)).1, .int .i64 (l.getD i (0, 0)).2]) := at_new
  have c6 := at_app (N := [AObj.cells true 0 [.int .i64 (l.getD i (0, 0)).1, .int .i64 (l.getD i (0, 0)).2]]) c6
  have x5 := x4.app [AObj.cells true 0 [.int .i64 (l.getD i (0, 0)).1, .int .i64 (l.getD i (0, 0)).2]]
  generalize (H' ++ [AObj.cells true 0 [.int .i64 (l.getD i (0, 0)).1, .int .i64 (l.getD i (0, 0)).2]] : AHeap) = H2 at c10 c6 x5
  generalize l.getD i (0, 0) = n at *
  generalize devL l i = dv at *
  (repeat (first | refine yw ?_ | ((first | apply yd | apply ye); simp (disch := first|exact zz|fail) only [go_sem, load_at c10, load_piece c6]; with_reducible rfl)))
  (refine adraw_call (N := []) (firstD (positions_c ⟨by omega, by omega⟩)) ?_; rw [List.append_nil])
  obtain ⟨P, hP⟩ : ∃ P, (chordL l).2.1 - (chordL l).1.1 = P := ⟨_, rfl⟩
  obtain ⟨x, hx⟩ : ∃ x, n.2 * P = x := ⟨_, rfl⟩
  rw [hP, hx] at d1 ed
  rw [hP]
  (repeat (first | refine yw ?_ | ((first | apply yd | apply ye); simp (disch := first|exact zz|fail) only [go_sem, load_at c10, load_piece c6, hx]; with_reducible rfl)))
  (refine adraw_call (N := []) (firstD (timeAtP_c p1 p2 p3 p4 p5 p6 h1 h2)) ?_; rw [List.append_nil])
  (repeat (first | refine yw ?_ | ((first | apply yd | apply ye); simp (disch := first|exact zz|fail) only [go_sem, ← ed]; with_reducible rfl)))
  refine cond_p rfl (fun hgt => ?_) (fun hle => ?_)
  · rw [if_pos (show (wowTo l i).1 < max dv (-dv) by omega)] at ew
    (refine yg ?_)
    exact ⟨by omega, by rw [ew]; simp [forget], x5⟩
  · rw [if_neg (show ¬ (wowTo l i).1 < max dv (-dv) by omega)] at ew
    (refine yg ?_)
    exact ⟨by omega, by rw [ew]; simp [forget], x5⟩
end
end Go.Lq

namespace Go.Lq
open Go
open Go.Proofs

def subV (sz : Nat) (v : Value) (lo hi : Nat) : Value := match v with | .slice (some ⟨id, off, none⟩) _ _ => .slice (some ⟨id, off + lo * sz, none⟩) (hi - lo) (if hi = lo then 1 else hi - lo) | v => v
theorem Sl.part {H : AHeap} {sz n : Nat} {vs : List Value} {v : Value} (h : Sl H sz n vs v) {H' : AHeap} {lo hi : Nat} (hn : 0 < n) (h0 : lo ≤ hi) (h1 : hi ≤ n) :
    sliceR sz v (some (.int .i64 (lo : Int))) (some (.int .i64 (hi : Int))) none H' = some (subV sz v lo hi, H') := by
  rcases h.2 with ⟨rfl, rfl⟩ | ⟨id, off, c, rfl, _⟩
  · omega
  · have e1 : ((hi : Int) - (lo : Int)).toNat = hi - lo := by omega
    have e2 : ((hi : Int) = (lo : Int)) = (hi = lo) := by simp; omega
    have hc : (0 : Int) ≤ (lo : Int) ∧ (lo : Int) ≤ (hi : Int) ∧ (hi : Int) ≤ (n : Int) := by omega
    simp only [sliceR, sliceA, loA, hiA, if_pos hc, Option.map_some, subV, e1, e2, Int.toNat_natCast]
theorem Sl.parted {H : AHeap} {sz n : Nat} {vs : List Value} {v : Value} (h : Sl H sz n vs v) {lo hi : Nat} (h0 : lo ≤ hi) (h1 : hi ≤ n) : Sl H sz (hi - lo) ((vs.drop (lo * sz)).take ((hi - lo) * sz)) (subV sz v lo hi) := by
  obtain ⟨hl, h⟩ := h
  have m1 := Nat.mul_le_mul_right sz h1
  have m2 : lo * sz + (hi - lo) * sz = hi * sz := by rw [← Nat.add_mul]; congr 1; omega
  refine ⟨by rw [List.length_take, List.length_drop, hl]; omega, ?_⟩
  rcases h with ⟨rfl, rfl⟩ | ⟨id, off, c, rfl, hc⟩
  · exact .inl ⟨rfl, by omega⟩
  · exact .inr ⟨id, off + lo * sz, _, rfl, fun hn => cellsAt_sub (hc (by omega)) (i := lo * sz) (m := (hi - lo) * sz) (by omega)⟩
theorem flat3_take (M : List Mark) : ∀ n, (flat3 M).take (n * 3) = flat3 (M.take n) := by
  induction M with
  | nil => intro n; simp [flat3]
  | cons p M ih =>
    intro n
    cases n with
    | zero => simp [flat3]
    | succ n =>
      rw [Nat.add_mul, Nat.one_mul]
      have := ih n
      simpa [flat3] using this
theorem Tris.part {H : AHeap} {M : List Mark} {v : Value} (h : Tris H M v) {H' : AHeap} {lo hi : Nat} (hn : 0 < M.length) (h0 : lo ≤ hi) (h1 : hi ≤ M.length) :
    sliceR 3 v (some (.int .i64 (lo : Int))) (some (.int .i64 (hi : Int))) none H' = some (subV 3 v lo hi, H') := Sl.part h hn h0 h1
theorem Tris.parted {H : AHeap} {M : List Mark} {v : Value} (h : Tris H M v) {lo hi : Nat} (h0 : lo ≤ hi) (h1 : hi ≤ M.length) : Tris H ((M.drop lo).take (hi - lo)) (subV 3 v lo hi) := by
  have := Sl.parted h h0 h1
  unfold Tris
  rw [List.length_take, List.length_drop, Nat.min_eq_left (by omega), ← flat3_take, ← flat3_drop]
  exact this
theorem getD_part {M : List Mark} {lo n j : Nat} (hj : j < n) : ((M.drop lo).take n).getD j (0, 0, 0) = M.getD (lo + j) (0, 0, 0) := by
  rw [List.getD_eq_getElem?_getD, List.getD_eq_getElem?_getD, List.getElem?_take_of_lt hj, List.getElem?_drop]
def idxF (p : Mark → Bool) (M : List Mark) (i : Nat) : Nat → Option Nat
  | 0 => none
  | n + 1 => if p (M.getD i (0, 0, 0)) = true then some i else idxF p M (i + 1) n
theorem idxF_succ {p : Mark → Bool} {M : List Mark} {i n : Nat} : idxF p M i (n + 1) = if p (M.getD i (0, 0, 0)) = true then some i else idxF p M (i + 1) n := rfl
theorem idxF_some {p : Mark → Bool} {M : List Mark} : ∀ {n i r : Nat}, idxF p M i n = some r → i ≤ r ∧ r < i + n ∧ p (M.getD r (0, 0, 0)) = true
  | 0, i, r, h => by cases h
  | n + 1, i, r, h => by
    unfold idxF at h
    split at h
    · rename_i hp; cases h; exact ⟨Nat.le_refl _, by omega, hp⟩
    · obtain ⟨a, b, c⟩ := idxF_some h; exact ⟨by omega, by omega, c⟩
theorem idxF_any {p : Mark → Bool} {M : List Mark} : ∀ {n i : Nat}, idxF p M i n = none ↔ ∀ k, i ≤ k → k < i + n → p (M.getD k (0, 0, 0)) = false
  | 0, i => ⟨fun _ k h1 h2 => by omega, fun _ => rfl⟩
  | n + 1, i => by
    unfold idxF
    by_cases hp : p (M.getD i (0, 0, 0)) = true
    · rw [if_pos hp]
      exact ⟨fun h => (by cases h), fun h => by rw [h i (Nat.le_refl _) (by omega)] at hp; cases hp⟩
    · rw [if_neg hp, idxF_any]
      refine ⟨fun h k h1 h2 => ?_, fun h k h1 h2 => h k (by omega) (by omega)⟩
      by_cases e : k = i
      · subst e; simpa using hp
      · exact h k (by omega) (by omega)
section
variable {H : AHeap} {L : Int × Int} {M : List Mark} {v : Value}
theorem keeps_c {p : (Int × Int) × (Int × Int)} (hL : (1 ≤ L.1 ∧ L.1 ≤ 100000) ∧ (1 ≤ L.2 ∧ L.2 ≤ 100000)) (p1 : 0 ≤ p.1.1 ∧ p.1.1 ≤ 1000000) (p2 : 0 ≤ p.2.1 ∧ p.2.1 ≤ 1000000) (p3 : 0 ≤ p.1.2 ∧ p.1.2 ≤ 1000000000000) (p4 : 0 ≤ p.2.2 ∧ p.2.2 ≤ 1000000000000) :
    ACall Go.Proofs.Tryz.prog 97 [pieceV p, .agg ⟨[.int .i64 L.1, .int .i64 L.2]⟩] H fun w H' => w = .bool (keepsB L p) ∧ H' = H := by
  refine ACall.drop (.bool _) ?_
  (refine a97 ?_; simp only [n97, List.replicate, yq, yr, yt, yu]; first | refine q1 ?_ | refine q2 ?_ | refine q6 ?_ | refine q7 ?_ | refine qh rfl ?_ | skip)
  obtain ⟨G, hG⟩ : ∃ G, G = H ++ [AObj.cells true 0 (pieceC p)] ++ [AObj.cells true 0 [.int .i64 L.1, .int .i64 L.2]] := ⟨_, rfl⟩
  have g0 : G[H.length]? = some (.cells true 0 (pieceC p)) := by rw [hG]; simp
  have g1 : G[H.length + 1]? = some (.cells true 0 [.int .i64 L.1, .int .i64 L.2]) := by rw [hG]; simp
  have xG : Ext H G := by rw [hG]; exact ((Ext.refl H).app _).app _
  (repeat (first | refine yv ?_ | (apply yd; simp (disch := first|exact zz|fail) only [go_sem, box_piece]; with_reducible rfl)))
  (simp only [List.length_append, List.length_cons, List.length_nil, Nat.zero_add, Nat.add_assoc, Nat.reduceAdd])
  rw [← hG]
  clear hG
  obtain ⟨d, hd⟩ : ∃ d, p.2.1 - p.1.1 = d := ⟨_, rfl⟩
  have m1 := mul_abs (x := L.1) (y := d) (a := 100000) (b := 1000000) ⟨by omega, by omega⟩ ⟨by omega, by omega⟩
  have m2 := mul_abs (x := L.2) (y := d) (a := 100000) (b := 1000000) ⟨by omega, by omega⟩ ⟨by omega, by omega⟩
  (repeat (first | refine yw ?_ | ((first | apply yd | apply ye); simp (disch := first|exact zz|fail) only [go_sem, load_piece g0]; with_reducible rfl)))
  (refine adraw_call (N := []) (firstD (times_c ⟨by omega, by omega⟩)) ?_; rw [List.append_nil])
  (repeat (first | refine yw ?_ | ((first | apply yd | apply ye); simp (disch := first|exact zz|fail) only [go_sem, load_at g1, load_piece g0]; with_reducible rfl)))
  (refine adraw_call (N := []) (firstD (positions_c ⟨by omega, by omega⟩)) ?_; rw [List.append_nil])
  rw [hd]
  (repeat (first | refine yw ?_ | ((first | apply yd | apply ye); simp (disch := first|exact zz|fail) only [go_sem, load_at g1, load_piece g0]; with_reducible rfl)))
  (refine adraw_call (N := []) (firstD (positions_c ⟨by omega, by omega⟩)) ?_; rw [List.append_nil])
  rw [hd]
  (refine yg ?_)
  (refine adraw_call (N := []) (firstD (swithin_c _ _ _)) ?_; rw [List.append_nil])
  (refine yg ?_)
  refine fin_1 ⟨?_, xG⟩
  unfold keepsB
  rw [hd]
  rfl
theorem meets_c {p : (Int × Int) × (Int × Int)} {x : Mark} (p1 : 0 ≤ p.1.1 ∧ p.1.1 ≤ 1000000) (p2 : 0 ≤ p.2.1 ∧ p.2.1 ≤ 1000000) (p3 : 0 ≤ p.1.2 ∧ p.1.2 ≤ 1000000000000) (p4 : 0 ≤ p.2.2 ∧ p.2.2 ≤ 1000000000000)
    (p5 : p.1.1 < p.2.1) (p6 : p.1.2 < p.2.2) (h1 : p.1.1 ≤ x.1) (h2 : x.1 ≤ p.2.1) (x1 : 0 ≤ x.2.1 ∧ x.2.1 ≤ 1000000000000) (x2 : 0 ≤ x.2.2 ∧ x.2.2 ≤ 1000000000000) :
    ACall Go.Proofs.Tryz.prog 99 [pieceV p, markV x] H fun w H' => w = .bool (meetsB p x) ∧ H' = H := by
  refine ACall.drop (.bool _) ?_
  (refine a99 ?_; simp only [n99, List.replicate, yq, yr, yt, yu]; first | refine q1 ?_ | refine q2 ?_ | refine q6 ?_ | refine q7 ?_ | refine qh rfl ?_ | skip)
  obtain ⟨G, hG⟩ : ∃ G, G = H ++ [AObj.cells true 0 (pieceC p)] ++ [AObj.cells true 0 (markC x)] := ⟨_, rfl⟩
  have g0 : G[H.length]? = some (.cells true 0 (pieceC p)) := by rw [hG]; simp
  have g1 : G[H.length + 1]? = some (.cells true 0 (markC x)) := by rw [hG]; simp
  have xG : Ext H G := by rw [hG]; exact ((Ext.refl H).app _).app _
  (repeat (first | refine yv ?_ | (apply yd; simp (disch := first|exact zz|fail) only [go_sem, box_piece, box_mark]; with_reducible rfl)))
  (simp only [List.length_append, List.length_cons, List.length_nil, Nat.zero_add, Nat.add_assoc, Nat.reduceAdd])
  rw [← hG]
  clear hG
  obtain ⟨d, hd⟩ : ∃ d, p.2.1 - p.1.1 = d := ⟨_, rfl⟩
  have m1 := mul_abs (x := x.2.1) (y := d) (a := 1000000000000) (b := 1000000) ⟨by omega, by omega⟩ ⟨by omega, by omega⟩
  have m2 := mul_abs (x := x.2.2) (y := d) (a := 1000000000000) (b := 1000000) ⟨by omega, by omega⟩ ⟨by omega, by omega⟩
  (repeat (first | refine yw ?_ | ((first | apply yd | apply ye); simp (disch := first|exact zz|fail) only [go_sem, load_piece g0, load_at g1, markC]; with_reducible rfl)))
  (refine adraw_call (N := []) (firstD (timeAtP_c p1 p2 p3 p4 p5 p6 h1 h2)) ?_; rw [List.append_nil])
  (repeat (first | refine yw ?_ | ((first | apply yd | apply ye); simp (disch := first|exact zz|fail) only [go_sem, load_piece g0, load_at g1, markC]; with_reducible rfl)))
  (refine adraw_call (N := []) (firstD (positions_c ⟨by omega, by omega⟩)) ?_; rw [List.append_nil])
  rw [hd]
  (repeat (first | refine yw ?_ | ((first | apply yd | apply ye); simp (disch := first|exact zz|fail) only [go_sem, load_piece g0, load_at g1, markC]; with_reducible rfl)))
  (refine adraw_call (N := []) (firstD (positions_c ⟨by omega, by omega⟩)) ?_; rw [List.append_nil])
  rw [hd]
  (refine yg ?_)
  (refine adraw_call (N := []) (firstD (swithin_c _ _ _)) ?_; rw [List.append_nil])
  (refine yg ?_)
  refine fin_1 ⟨?_, xG⟩
  unfold meetsB
  rw [hd]
  rfl
set_option maxHeartbeats 4000000 in
theorem indexM_c {g : FuncId} {ys : List Value} {p : Mark → Bool} (hl : Tris H M v) (hb : M.length ≤ 1000000000) (hg : ∀ (k : Nat) (J : AHeap), k < M.length → Ext H J → ACall Go.Proofs.Tryz.prog g (markV (M.getD k (0, 0, 0)) :: ys) J fun w H' => w = .bool (p (M.getD k (0, 0, 0))) ∧ H' = J) :
    ACall Go.Proofs.Tryz.prog 79 [v, .func (.func g) #[] ⟨ys⟩] H fun w H' => w = .int .i64 (match idxF p M 0 M.length with | some r => (r : Int) | none => -1) ∧ H' = H := by
  (refine a79 ?_; simp only [n79, List.replicate, yq, yr, yt, yu]; first | refine q1 ?_ | refine q2 ?_ | refine q6 ?_ | refine q7 ?_ | refine qh rfl ?_ | skip)
  (repeat (first | refine yw ?_ | ((first | apply yd | apply ye); simp (disch := first|exact zz|fail) only [go_sem, hl.len, hl.idx, hl.load]; with_reducible rfl)))
  refine awp_loop_n [true, true, false, false, false, false, false, true, true, false, false, false, false, false, false, false, false, false, false] M.length (fun i e H' => H' = H ∧ e = [v, .func (.func g) #[] ⟨ys⟩, junk, junk, junk, junk, junk, .int .i64 M.length, .int .i64 i, junk, junk, junk, junk, junk, junk, junk, junk, junk, junk] ∧ idxF p M 0 M.length = idxF p M i (M.length - i)) ?_ ?_
  · exact ⟨rfl, by simp [forget], by simp⟩
  rintro i e H' hi ⟨rfl, rfl, hp⟩
  (refine yg ?_)
  refine cond_p rfl (fun hlt => ?_) (fun hge => ?_)
  rotate_left 1
  · obtain rfl : i = M.length := by omega
    rw [Nat.sub_self] at hp
    (refine yg ?_)
    exact fin_1 ⟨by rw [hp]; rfl, rfl⟩
  have hi' : i < M.length := by omega
  rw [show M.length - i = M.length - (i + 1) + 1 by omega, idxF_succ] at hp
  have hgi := hg i H' hi' (Ext.refl _)
  (repeat (first | refine yw ?_ | ((first | apply yd | apply ye); simp (disch := first|exact zz|fail) only [go_sem, hl.len, hl.idx, hl.load]; with_reducible rfl)))
  refine aops_call_to hgi ?_
  generalize hpx : p (M.getD i (0, 0, 0)) = b at *
  cases b with
  | true =>
    rw [if_pos rfl] at hp
    (refine yg ?_)
    refine cond_t rfl ?_
    (refine yg ?_)
    exact fin_1 ⟨by rw [hp]; rfl, rfl⟩
  | false =>
    rw [if_neg (by simp)] at hp
    (refine yg ?_)
    refine cond_f rfl ?_
    (refine yg ?_)
    exact ⟨by omega, rfl, by simp [forget], hp⟩
theorem containsM_c {g : FuncId} {ys : List Value} {p : Mark → Bool} (hl : Tris H M v) (hb : M.length ≤ 1000000000) (hg : ∀ (k : Nat) (J : AHeap), k < M.length → Ext H J → ACall Go.Proofs.Tryz.prog g (markV (M.getD k (0, 0, 0)) :: ys) J fun w H' => w = .bool (p (M.getD k (0, 0, 0))) ∧ H' = J) :
    ACall Go.Proofs.Tryz.prog 55 [v, .func (.func g) #[] ⟨ys⟩] H fun w H' => w = .bool (idxF p M 0 M.length).isSome ∧ H' = H := by
  (refine a55 ?_; simp only [n55, List.replicate, yq, yr, yt, yu]; first | refine q1 ?_ | refine q2 ?_ | refine q6 ?_ | refine q7 ?_ | refine qh rfl ?_ | skip)
  (refine yg ?_)
  (refine aops_call_to (indexM_c hl hb hg) ?_)
  cases hx : idxF p M 0 M.length with
  | none =>
    (repeat (first | refine yw ?_ | ((first | apply yd | apply ye); simp (disch := first|exact zz|fail) only [go_sem, dec_f (show ¬ (0 : Int) ≤ -1 by omega)]; with_reducible rfl)))
    exact fin_1 ⟨rfl, rfl⟩
  | some r =>
    (repeat (first | refine yw ?_ | ((first | apply yd | apply ye); simp (disch := first|exact zz|fail) only [go_sem, dec_t (show (0 : Int) ≤ (r : Int) by omega)]; with_reducible rfl)))
    exact fin_1 ⟨rfl, rfl⟩
theorem joins1_c {p : (Int × Int) × (Int × Int)} {x : Mark} {id : Nat} (h : H[id]? = some (.cells true 0 (pieceC p))) (p1 : 0 ≤ p.1.1 ∧ p.1.1 ≤ 1000000) (p2 : 0 ≤ p.2.1 ∧ p.2.1 ≤ 1000000) (p3 : 0 ≤ p.1.2 ∧ p.1.2 ≤ 1000000000000) (p4 : 0 ≤ p.2.2 ∧ p.2.2 ≤ 1000000000000)
    (p5 : p.1.1 < p.2.1) (p6 : p.1.2 < p.2.2) (h1 : p.1.1 ≤ x.1) (h2 : x.1 ≤ p.2.1) (x1 : 0 ≤ x.2.1 ∧ x.2.1 ≤ 1000000000000) (x2 : 0 ≤ x.2.2 ∧ x.2.2 ≤ 1000000000000) :
    ACall Go.Proofs.Tryz.prog 98 [markV x, .pointer (some ⟨id, 0, none⟩)] H fun w H' => w = .bool (!meetsB p x) ∧ H' = H := by
  refine ACall.drop (.bool _) ?_
  (refine a98 ?_; simp only [n98, List.replicate, yq, yr, yt, yu]; first | refine q1 ?_ | refine q2 ?_ | refine q6 ?_ | refine q7 ?_ | refine qh rfl ?_ | skip)
  have g0 : (H ++ [AObj.cells true 0 (markC x)])[H.length]? = some (.cells true 0 (markC x)) := at_new
  have xG : Ext H (H ++ [AObj.cells true 0 (markC x)]) := (Ext.refl H).app _
  (repeat (first | refine yv ?_ | (apply yd; simp (disch := first|exact zz|fail) only [go_sem, box_mark]; with_reducible rfl)))
  generalize (H ++ [AObj.cells true 0 (markC x)] : AHeap) = G at g0 xG
  (repeat (first | refine yw ?_ | ((first | apply yd | apply ye); simp (disch := first|exact zz|fail) only [go_sem, load_mark g0, load_piece (xG.cell h)]; with_reducible rfl)))
  (refine aops_call_to (meets_c p1 p2 p3 p4 p5 p6 h1 h2 x1 x2) ?_)
  (refine yg ?_)
  exact fin_1 ⟨rfl, xG⟩
set_option maxHeartbeats 4000000 in
theorem joins_c {i k : Nat} {s t : Int} (hl : Tris H M v) (hk : EvOk L M) (hik : i < k) (hkl : k < M.length) (hs : inR M i s) (ht : inR M k t) :
    ACall Go.Proofs.Tryz.prog 81 [evV L v, .int .i64 i, .int .i64 k, pieceV (pieceK M i k s t)] H fun w H' => w = .bool (joinsB L M i k s t) ∧ H' = H := by
  refine ACall.drop (.bool _) ?_
  have hlen := hk.len
  have p1 : 0 ≤ (pieceK M i k s t).1.1 ∧ (pieceK M i k s t).1.1 ≤ 1000000 := hk.pos i (by omega)
  have p2 : 0 ≤ (pieceK M i k s t).2.1 ∧ (pieceK M i k s t).2.1 ≤ 1000000 := hk.pos k hkl
  have p3 : 0 ≤ (pieceK M i k s t).1.2 ∧ (pieceK M i k s t).1.2 ≤ 1000000000000 := by
    have a := hk.t1 i (by omega); have b := hk.t2 i (by omega); have c : (M.getD i (0, 0, 0)).2.1 ≤ s ∧ s ≤ (M.getD i (0, 0, 0)).2.2 := hs
    show 0 ≤ s ∧ s ≤ _; omega
  have p4 : 0 ≤ (pieceK M i k s t).2.2 ∧ (pieceK M i k s t).2.2 ≤ 1000000000000 := by
    have a := hk.t1 k hkl; have b := hk.t2 k hkl; have c : (M.getD k (0, 0, 0)).2.1 ≤ t ∧ t ≤ (M.getD k (0, 0, 0)).2.2 := ht
    show 0 ≤ t ∧ t ≤ _; omega
  have p5 : (pieceK M i k s t).1.1 < (pieceK M i k s t).2.1 := hk.lt hik hkl
  have hL := And.intro hk.lo hk.hi
  have eb : joinsB L M i k s t = (keepsB L (pieceK M i k s t) && meetsAll (pieceK M i k s t) M (i + 1) (k - i - 1)) := rfl
  rw [eb]
  have hpos : ∀ j, i + 1 ≤ j → j < k → (pieceK M i k s t).1.1 ≤ (M.getD j (0, 0, 0)).1 ∧ (M.getD j (0, 0, 0)).1 ≤ (pieceK M i k s t).2.1 := fun j h1 h2 => by
    have a := hk.lt (i := i) (j := j) (by omega) (by omega)
    have b := hk.lt (i := j) (j := k) (by omega) (by omega)
    show (M.getD i (0, 0, 0)).1 ≤ _ ∧ _ ≤ (M.getD k (0, 0, 0)).1
    omega
  generalize pieceK M i k s t = p at *
  (refine a81 ?_; simp only [n81, List.replicate, yq, yr, yt, yu]; first | refine q1 ?_ | refine q2 ?_ | refine q6 ?_ | refine q7 ?_ | refine qh rfl ?_ | skip)
  obtain ⟨G, hG⟩ : ∃ G, G = H ++ [AObj.cells true 0 (evC L v)] ++ [AObj.cells true 0 (pieceC p)] := ⟨_, rfl⟩
  have g0 : G[H.length]? = some (.cells true 0 (evC L v)) := by rw [hG]; simp
  have g1 : G[H.length + 1]? = some (.cells true 0 (pieceC p)) := by rw [hG]; simp
  have xG : Ext H G := by rw [hG]; exact ((Ext.refl H).app _).app _
  (repeat (first | refine yv ?_ | (apply yd; simp (disch := first|exact zz|fail) only [go_sem, box_ev hl.atom, box_piece]; with_reducible rfl)))
  (simp only [List.length_append, List.length_cons, List.length_nil, Nat.zero_add, Nat.add_assoc, Nat.reduceAdd])
  rw [← hG]
  clear hG
  have hlG := hl.ext xG
  (repeat (first | refine yw ?_ | ((first | apply yd | apply ye); simp (disch := first|exact zz|fail) only [go_sem, load_piece g1, load_lim g0]; with_reducible rfl)))
  (refine aops_call_to (keeps_c hL p1 p2 p3 p4) ?_)
  cases hkp : keepsB L p with
  | false =>
    (refine yg ?_)
    exact fin_1 ⟨rfl, xG⟩
  | true =>
    have hup := of_decide_eq_true hkp
    have m1 := Int.mul_le_mul hL.1.1 (show (1 : Int) ≤ p.2.1 - p.1.1 by omega) (by omega) (by omega)
    have p6 : p.1.2 < p.2.2 := by omega
    have en : ((i : Int) + 1) = ((i + 1 : Nat) : Int) := by omega
    have hpt := hlG.part (H' := G) (lo := i + 1) (hi := k) (by omega) (by omega) (by omega)
    have hpd := hlG.parted (lo := i + 1) (hi := k) (by omega) (by omega)
    have hpl : ((M.drop (i + 1)).take (k - (i + 1))).length = k - (i + 1) := by rw [List.length_take, List.length_drop]; omega
    (repeat (first | refine yw ?_ | ((first | apply yd | apply ye); simp (disch := first|exact zz|fail) only [go_sem, load_at g0, evC, en, hpt]; with_reducible rfl)))
    have hc := containsM_c (g := 98) (ys := [.pointer (some ⟨H.length + 1, 0, none⟩)]) (p := fun x => !meetsB p x) hpd (by rw [hpl]; omega) (fun j J hj hx => by
      rw [hpl] at hj
      rw [getD_part hj]
      obtain ⟨a, b⟩ := hpos (i + 1 + j) (by omega) (by omega)
      exact joins1_c (hx.cell g1) p1 p2 p3 p4 p5 p6 a b (hk.t1 _ (by omega)) (hk.t2 _ (by omega)))
    have key : (!(idxF (fun x => !meetsB p x) ((M.drop (i + 1)).take (k - (i + 1))) 0 ((M.drop (i + 1)).take (k - (i + 1))).length).isSome) = meetsAll p M (i + 1) (k - i - 1) := by
      rw [hpl]
      cases hx : idxF (fun x => !meetsB p x) ((M.drop (i + 1)).take (k - (i + 1))) 0 (k - (i + 1)) with
      | none =>
        have := idxF_any.1 hx
        symm
        show meetsAll p M (i + 1) (k - i - 1) = !false
        refine meetsAll_iff.2 fun j h1 h2 => ?_
        have := this (j - (i + 1)) (by omega) (by omega)
        rw [getD_part (by omega), show i + 1 + (j - (i + 1)) = j by omega] at this
        simpa using this
      | some r =>
        obtain ⟨h1, h2, h3⟩ := idxF_some hx
        rw [getD_part (by omega)] at h3
        show false = _
        cases hm : meetsAll p M (i + 1) (k - i - 1) with
        | false => rfl
        | true =>
          have := meetsAll_iff.1 hm (i + 1 + r) (by omega) (by omega)
          rw [this] at h3; cases h3
    (refine aops_call_to (hc) ?_)
    (refine yg ?_)
    exact fin_1 ⟨by rw [Bool.true_and, ← key]; rfl, xG⟩
end
end Go.Lq

namespace Go.Lq
open Go
open Go.Proofs

def wayV (w : Way) : Value := .agg ⟨[.int .i64 (w.1 : Int), .int .i64 w.2.1.1, .int .i64 w.2.1.2, .int .i64 (w.2.2 : Int)]⟩
def wayC (w : Way) : List Value := [.int .i64 (w.1 : Int), .int .i64 w.2.1.1, .int .i64 w.2.1.2, .int .i64 (w.2.2 : Int)]
theorem getP_look {m : Ents} {p : Int × Int} {z : Value} {ok : Bool} : gotA z ok (lookP p m 0) = match getP m p with | some v => (if ok then .tuple #[v, .bool true] else v) | none => (if ok then .tuple #[z, .bool false] else z) := by
  unfold getP
  cases lookP p m 0 with
  | none => rfl
  | some r => rfl
theorem get_way {J : AHeap} {idm : Nat} {m : Ents} (h : J[idm]? = some (.map (entsP m))) {a b : Int} {o : Option Way} (hg : getP m (a, b) = o.map wayV) :
    mapGetR (.agg #[.int .i64 0, .int .i64 0, .int .i64 0, .int .i64 0]) [(0, false), (1, false)] true (.map (some idm)) (.agg ⟨[.int .i64 a, .int .i64 b]⟩) J = some (.tuple ⟨[wayV (o.getD zeroW), .bool o.isSome]⟩, J) := by
  rw [map_get h rfl true a b, getP_look, hg]
  cases o <;> rfl
theorem get_way1 {J : AHeap} {idm : Nat} {m : Ents} (h : J[idm]? = some (.map (entsP m))) {a b : Int} {o : Option Way} (hg : getP m (a, b) = o.map wayV) :
    mapGetR (.agg #[.int .i64 0, .int .i64 0, .int .i64 0, .int .i64 0]) [(0, false), (1, false)] false (.map (some idm)) (.agg ⟨[.int .i64 a, .int .i64 b]⟩) J = some (wayV (o.getD zeroW), J) := by
  rw [map_get h rfl false a b, getP_look, hg]
  cases o <;> rfl
theorem load_way {G : AHeap} {id : Nat} {w : Way} (h : G[id]? = some (.cells true 0 (wayC w))) : loadNR 4 (.pointer (some ⟨id, 0, none⟩)) G = some (wayV w, G) := loadN_at h (by simp [wayC])
theorem store_newW {H : AHeap} {w : Way} {vs : List Value} (hl : vs.length = 4) : storeR 4 (.pointer (some ⟨H.length, 0, none⟩)) (wayV w) (H ++ [.cells true 0 vs]) = some (undef, H ++ [.cells true 0 (wayC w)]) := store_newN rfl (by rw [hl]; rfl) rfl
theorem store_atW {H : AHeap} {id : Nat} {w u : Way} (h : H[id]? = some (.cells true 0 (wayC u))) : storeR 4 (.pointer (some ⟨id, 0, none⟩)) (wayV w) H = some (undef, H.set id (.cells true 0 (wayC w))) := store_all h rfl rfl rfl
theorem fill_way {a b c d : Int} : fillA [.int .i64 0, .int .i64 0, .int .i64 0, .int .i64 0] [(0, 1, .int .i64 a), (1, 2, .agg ⟨[.int .i64 b, .int .i64 c]⟩), (3, 1, .int .i64 d)] = some [.int .i64 a, .int .i64 b, .int .i64 c, .int .i64 d] := rfl
theorem build_piece {a b c d : Int} : fillA [.int .i64 0, .int .i64 0, .int .i64 0, .int .i64 0] [(0, 2, .agg ⟨[.int .i64 a, .int .i64 b]⟩), (2, 2, .agg ⟨[.int .i64 c, .int .i64 d]⟩)] = some [.int .i64 a, .int .i64 b, .int .i64 c, .int .i64 d] := rfl
theorem shRow_succ {W : Nat → Int → Option Nat} {L : Int × Int} {M : List Mark} {i : Nat} {s : Int} {k n : Nat} {t : Int} {out : Way} : shRow W L M i s k (n + 1) t out = shRow W L M i s k n (t + 1) (shStep W L M i s k t out) := rfl
theorem shAll_succ {W : Nat → Int → Option Nat} {L : Int × Int} {M : List Mark} {i : Nat} {s : Int} {k n : Nat} {out : Way} : shAll W L M i s (n + 1) k out = shAll W L M i s n (k + 1) (shRow W L M i s k (widthN M k) (M.getD k (0, 0, 0)).2.1 out) := rfl
attribute [go_sem] Option.isSome_none Option.isSome_some
theorem closed_wayB (w : Way) (b : Bool) : Closed (.tuple #[wayV w, .bool b]) := .tuple _ (closed_list (l := [wayV w, .bool b]) fun v hv => by
  simp only [List.mem_cons, List.not_mem_nil, or_false] at hv
  rcases hv with rfl | rfl
  · exact .agg _ (closed_list (l := wayC w) fun v hv => by
      simp only [wayC, List.mem_cons, List.not_mem_nil, or_false] at hv
      rcases hv with rfl | rfl | rfl | rfl <;> exact .int _ _)
  · exact .bool _)
theorem fin_l2w {c : RCode} {n a b : Nat} {R : Value → AHeap → Prop} {e : Env} {H : AHeap} {id : Nat} {w : Way} (hp : e.getD a undef = .pointer (some ⟨id, 0, none⟩)) (h1 : H[id]? = some (.cells true 0 (wayC w))) (h : R (.tuple #[wayV w, e.getD b undef]) H) :
    Fin ⟨c, n, [.loadN 4 a, .tmp b]⟩ R .ret e H := fin_l2 (u := wayV w) (by rw [hp]; exact load_way h1) h

section
variable {H : AHeap} {L : Int × Int} {M : List Mark} {v : Value}
set_option maxHeartbeats 8000000 in
theorem shortest_c {i idm : Nat} {s : Int} {m : Ents} {T : Nat → Int → Option Way} (hl : Tris H M v) (hk : EvOk L M) (hi : i < M.length) (hs : inR M i s) (hm : H[idm]? = some (.map (entsP m)))
    (hT : ∀ k t, i < k → k < M.length → inR M k t → getP m (mP M k, t) = (T k t).map wayV) (hw : ∀ k t w, T k t = some w → w.1 ≤ 12) :
    ACall Go.Proofs.Tryz.prog 57 [evV L v, .int .i64 i, .agg ⟨[.int .i64 (mP M i), .int .i64 s]⟩, .map (some idm)] H fun w H' =>
      w = .tuple #[wayV (shAll (fun a b => (T a b).map (·.1)) L M i s (M.length - (i + 1)) (i + 1) zeroW), .bool (decide (0 < (shAll (fun a b => (T a b).map (·.1)) L M i s (M.length - (i + 1)) (i + 1) zeroW).1))] ∧ H' = H := by
  refine ACall.drop (closed_wayB _ _) ?_
  have hlen := hk.len
  obtain ⟨R, hR⟩ : ∃ R, shAll (fun a b => (T a b).map (·.1)) L M i s (M.length - (i + 1)) (i + 1) zeroW = R := ⟨_, rfl⟩
  rw [hR]
  obtain ⟨W, hW⟩ : ∃ W : Nat → Int → Option Nat, W = fun a b => (T a b).map (·.1) := ⟨_, rfl⟩
  rw [← hW] at hR
  (refine a57 ?_; simp only [n57, List.replicate, yq, yr, yt, yu]; first | refine q1 ?_ | refine q2 ?_ | refine q6 ?_ | refine q7 ?_ | refine qh rfl ?_ | skip)
  obtain ⟨G, hG⟩ : ∃ G, G = H ++ [AObj.cells true 0 (evC L v)] ++ [AObj.cells true 0 [.int .i64 (mP M i), .int .i64 s]] ++ [AObj.cells true 0 (wayC zeroW)] ++ [AObj.cells true 0 (wayC zeroW)] := ⟨_, rfl⟩
  have g0 : G[H.length]? = some (.cells true 0 (evC L v)) := by rw [hG]; simp
  have g1 : G[H.length + 1]? = some (.cells true 0 [.int .i64 (mP M i), .int .i64 s]) := by rw [hG]; simp
  have g2 : G[H.length + 2]? = some (.cells true 0 (wayC zeroW)) := by rw [hG]; simp
  have g3 : G[H.length + 3]? = some (.cells true 0 (wayC zeroW)) := by rw [hG]; simp
  have xG : Ext H G := by rw [hG]; exact ((((Ext.refl H).app _).app _).app _).app _
  have lG : G.length = H.length + 4 := by rw [hG]; simp
  have ez : wayC zeroW = [.int .i64 0, .int .i64 0, .int .i64 0, .int .i64 0] := rfl
  rw [ez] at hG
  have e1 : ((i : Int) + 1) = ((i + 1 : Nat) : Int) := by omega
  (repeat (first | refine yv ?_ | (apply yd; simp (disch := first|exact zz|fail) only [go_sem, box_ev hl.atom, e1]; with_reducible rfl)))
  (simp only [List.length_append, List.length_cons, List.length_nil, Nat.zero_add, Nat.add_assoc, Nat.reduceAdd])
  rw [← hG]
  clear hG
  refine awp_loop_n [false, true, false, true, true, false, true, false, true, false, true, true, false, false, false, false, false, false, false, false, false, false, false, false, false, false, false, false, false, false, false, false, false, false, false, false, false, false, false, false, false, false, false, false, false, false, false, false, false, false, false, false, false, false, false, false, false, false, false, false, false, false, false, false, false, false, false, false, false, false, false, false, false, false, false, false, false, false, false, false, false, false, false, false, false, false, false, false, false, false, false, false, false, false] (M.length - (i + 1)) (fun j e H' => ∃ out : Way, e = [junk, .int .i64 i, junk, .map (some idm), .pointer (some ⟨H.length, 0, none⟩), junk, .pointer (some ⟨H.length + 1, 0, none⟩), junk, .pointer (some ⟨H.length + 2, 0, none⟩), junk, .pointer (some ⟨H.length + 3, 0, none⟩), .int .i64 ((i + 1 + j : Nat) : Int), junk, junk, junk, junk, junk, junk, junk, junk, junk, junk, junk, junk, junk, junk, junk, junk, junk, junk, junk, junk, junk, junk, junk, junk, junk, junk, junk, junk, junk, junk, junk, junk, junk, junk, junk, junk, junk, junk, junk, junk, junk, junk, junk, junk, junk, junk, junk, junk, junk, junk, junk, junk, junk, junk, junk, junk, junk, junk, junk, junk, junk, junk, junk, junk, junk, junk, junk, junk, junk, junk, junk, junk, junk, junk, junk, junk, junk, junk, junk, junk, junk, junk] ∧
    Keeps (H.length + 3) G H' ∧ H'[H.length + 3]? = some (.cells true 0 (wayC out)) ∧ out.1 ≤ 13 ∧ shAll W L M i s (M.length - (i + 1) - j) (i + 1 + j) out = R) ?_ ?_
  · exact ⟨zeroW, by simp [forget], Keeps.of_ext (Ext.refl _), g3, by decide, hR⟩
  rintro j e H1 hj ⟨out, rfl, hK, hc, ho, hA⟩
  obtain ⟨k, hkk⟩ : ∃ k, i + 1 + j = k := ⟨_, rfl⟩
  rw [hkk] at hA
  simp only [hkk]
  have k0 := hK.get g0 (by omega)
  have k1 := hK.get g1 (by omega)
  have k2 := hK.get g2 (by omega)
  have xK := hK.ext xG (by omega)
  have hl1 := hl.ext xK
  (repeat (first | refine yw ?_ | ((first | apply yd | apply ye); simp (disch := first|exact zz|fail) only [go_sem, hl1.len, hl1.idx, hl1.load, load_at k0, evC]; with_reducible rfl)))
  refine cond_p rfl (fun hlt => ?_) (fun hge => ?_)
  rotate_left 1
  · have hjz : M.length - (i + 1) - j = 0 := by omega
    rw [hjz] at hA
    have hAo : out = R := hA
    subst hAo
    (refine yg ?_)
    refine yf (id := H.length + 2) (off := 0) (esz := 0) (vs := wayC zeroW) rfl k2 (by decide) ?_
    have d3 : (H1.set (H.length + 2) AObj.dead)[H.length + 3]? = some (.cells true 0 (wayC out)) := by rw [List.getElem?_set_ne (by omega)]; exact hc
    have hd2 : H.length + 2 < H1.length := (List.getElem?_eq_some_iff.1 k2).1
    (repeat (first | refine yw ?_ | ((first | apply yd | apply ye); simp (disch := first|exact zz|fail) only [go_sem, load_way d3, load_at d3, wayC]; with_reducible rfl)))
    refine ⟨rfl, rfl, ?_⟩
    have f2 : ((H1.set (H.length + 2) AObj.dead).set (H.length + 2) (.cells true 0 (setCells (wayC zeroW) 0 (wayV out).cells.toList)))[H.length + 2]? = some (.cells true 0 (wayC out)) := by
      rw [List.getElem?_set_self (by simpa using hd2)]; rfl
    have x9 : Ext H ((H1.set (H.length + 2) AObj.dead).set (H.length + 2) (.cells true 0 (setCells (wayC zeroW) 0 (wayV out).cells.toList))) := (xK.set (by omega) _).set (by omega) _
    (refine yg ?_)
    refine fin_l2w rfl f2 ⟨?_, x9⟩
    have eb : decide ((0 : Int) < (out.1 : Int)) = decide (0 < out.1) := by simp
    rw [← eb]
    rfl
  have hkl : k < M.length := by omega
  obtain ⟨x, hx⟩ : ∃ x, M.getD k (0, 0, 0) = x := ⟨_, rfl⟩
  have t1 := hk.t1 k hkl
  have t2 := hk.t2 k hkl
  have t3 := hk.lohi k hkl
  obtain ⟨n, hn⟩ : ∃ n, widthN M k = n := ⟨_, rfl⟩
  have hnx : (n : Int) = x.2.2 - x.2.1 + 1 := by rw [← hn, ← hx]; unfold widthN; omega
  rw [show M.length - (i + 1) - j = M.length - (k + 1) + 1 by omega, shAll_succ, hn] at hA
  rw [hx] at t1 t2 t3 hA
  (repeat (first | refine yw ?_ | ((first | apply yd | apply ye); simp (disch := first|exact zz|fail) only [go_sem, hl1.len, hl1.idx, hl1.load, load_at k0, evC, hx]; with_reducible rfl)))
  refine awp_loop_n [false, true, false, true, true, false, true, false, true, false, true, true, true, false, false, false, false, false, false, false, false, false, false, false, false, false, false, false, false, false, false, false, false, false, false, false, false, false, false, false, false, false, false, false, false, false, false, false, false, false, false, false, false, false, false, false, false, false, false, false, false, false, false, false, false, false, false, false, false, false, false, false, false, false, false, false, false, false, false, false, false, false, false, false, false, false, false, false, false, false, false, false, false, false] n (fun q e H' => ∃ out : Way, e = [junk, .int .i64 i, junk, .map (some idm), .pointer (some ⟨H.length, 0, none⟩), junk, .pointer (some ⟨H.length + 1, 0, none⟩), junk, .pointer (some ⟨H.length + 2, 0, none⟩), junk, .pointer (some ⟨H.length + 3, 0, none⟩), .int .i64 (k : Int), .int .i64 (x.2.1 + (q : Int)), junk, junk, junk, junk, junk, junk, junk, junk, junk, junk, junk, junk, junk, junk, junk, junk, junk, junk, junk, junk, junk, junk, junk, junk, junk, junk, junk, junk, junk, junk, junk, junk, junk, junk, junk, junk, junk, junk, junk, junk, junk, junk, junk, junk, junk, junk, junk, junk, junk, junk, junk, junk, junk, junk, junk, junk, junk, junk, junk, junk, junk, junk, junk, junk, junk, junk, junk, junk, junk, junk, junk, junk, junk, junk, junk, junk, junk, junk, junk, junk, junk] ∧
    Keeps (H.length + 3) G H' ∧ H'[H.length + 3]? = some (.cells true 0 (wayC out)) ∧ out.1 ≤ 13 ∧ shAll W L M i s (M.length - (k + 1)) (k + 1) (shRow W L M i s k (n - q) (x.2.1 + (q : Int)) out) = R) ?_ ?_
  · exact ⟨out, by simp [forget], hK, hc, ho, by simpa using hA⟩
  clear hA ho hc hK k0 k1 k2 xK hl1
  clear out
  rintro q e H2 hq ⟨out, rfl, hK, hc, ho, hA⟩
  have k0 := hK.get g0 (by omega)
  have k1 := hK.get g1 (by omega)
  have xK := hK.ext xG (by omega)
  have hl1 := hl.ext xK
  (repeat (first | refine yw ?_ | ((first | apply yd | apply ye); simp (disch := first|exact zz|fail) only [go_sem, hl1.len, hl1.idx, hl1.load, load_at k0, evC, hx]; with_reducible rfl)))
  refine cond_p rfl (fun hlt2 => ?_) (fun hge2 => ?_)
  rotate_left 1
  · have hqn : q = n := by omega
    subst hqn
    rw [Nat.sub_self] at hA
    have e2 : ((k : Int) + 1) = ((i + 1 + (j + 1) : Nat) : Int) := by omega
    (repeat (first | refine yw ?_ | ((first | apply yd | apply ye); simp (disch := first|exact zz|fail) only [go_sem, e2]; with_reducible rfl)))
    refine ⟨by omega, out, by simp [forget], hK, hc, ho, ?_⟩
    rw [show M.length - (i + 1) - (j + 1) = M.length - (k + 1) by omega, show i + 1 + (j + 1) = k + 1 by omega]
    exact hA
  have hqn : q < n := by omega
  obtain ⟨t, ht⟩ : ∃ t, x.2.1 + (q : Int) = t := ⟨_, rfl⟩
  have hin : inR M k t := by unfold inR; rw [hx]; omega
  rw [show n - q = n - (q + 1) + 1 by omega, shRow_succ, ht] at hA
  have ht2 : t + 1 = x.2.1 + ((q + 1 : Nat) : Int) := by omega
  rw [ht2] at hA
  have emp : mP M k = x.1 := by unfold mP; rw [hx]
  have hTk := hT k t (by omega) hkl hin
  rw [emp] at hTk
  (repeat (first | refine yv ?_ | (apply yd; simp (disch := first|exact zz|fail) only [go_sem, hl1.len, hl1.idx, hl1.load, load_at k0, evC, hx, ht, fill2i, store_new2]; with_reducible rfl)))
  have b13 : (H2 ++ [AObj.cells true 0 [.int .i64 x.1, .int .i64 t]])[H2.length]? = some (.cells true 0 [.int .i64 x.1, .int .i64 t]) := at_new
  have hK := hK.app [AObj.cells true 0 [.int .i64 x.1, .int .i64 t]]
  have hc := at_app (N := [AObj.cells true 0 [.int .i64 x.1, .int .i64 t]]) hc
  have k0 := at_app (N := [AObj.cells true 0 [.int .i64 x.1, .int .i64 t]]) k0
  have k1 := at_app (N := [AObj.cells true 0 [.int .i64 x.1, .int .i64 t]]) k1
  have xK := xK.app [AObj.cells true 0 [.int .i64 x.1, .int .i64 t]]
  generalize hb13 : H2.length = i13 at b13
  generalize (H2 ++ [AObj.cells true 0 [.int .i64 x.1, .int .i64 t]] : AHeap) = G3 at *
  have hmp := xK.cell hm
  have hstW := store_newW (H := G3) (w := (T k t).getD zeroW) (vs := [.int .i64 0, .int .i64 0, .int .i64 0, .int .i64 0]) rfl
  (repeat (first | refine yv ?_ | (apply yd; simp (disch := first|exact zz|fail) only [go_sem, n2_at b13, get_way hmp hTk, hstW]; with_reducible rfl)))
  have b14 : (G3 ++ [AObj.cells true 0 (wayC ((T k t).getD zeroW))])[G3.length]? = some (.cells true 0 (wayC ((T k t).getD zeroW))) := at_new
  have hK := hK.app [AObj.cells true 0 (wayC ((T k t).getD zeroW))]
  have hc := at_app (N := [AObj.cells true 0 (wayC ((T k t).getD zeroW))]) hc
  have k0 := at_app (N := [AObj.cells true 0 (wayC ((T k t).getD zeroW))]) k0
  have k1 := at_app (N := [AObj.cells true 0 (wayC ((T k t).getD zeroW))]) k1
  have b13 := at_app (N := [AObj.cells true 0 (wayC ((T k t).getD zeroW))]) b13
  have xK := xK.app [AObj.cells true 0 (wayC ((T k t).getD zeroW))]
  generalize hb14 : G3.length = i14 at b14
  generalize (G3 ++ [AObj.cells true 0 (wayC ((T k t).getD zeroW))] : AHeap) = G4 at *
  have hl4 := hl.ext xK
  have hWk : W k t = (T k t).map (·.1) := by rw [hW]
  unfold shStep at hA
  rw [hWk] at hA
  cases hTt : T k t with
  | none =>
    rw [hTt] at hA
    (refine yg ?_)
    refine cond_f rfl ?_
    (repeat (first | refine yw ?_ | ((first | apply yd | apply ye); simp (disch := first|exact zz|fail) only [go_sem, ht2]; with_reducible rfl)))
    exact ⟨by omega, out, by simp [forget], hK, hc, ho, hA⟩
  | some w =>
    have hw12 := hw k t w hTt
    rw [hTt] at hA b14
    simp only [Option.map_some] at hA
    have b14' : G4[i14]? = some (.cells true 0 (wayC w)) := b14
    have hjc := joins_c (H := G4) (v := v) (L := L) (M := M) (i := i) (k := k) (s := s) (t := t) hl4 hk (by omega) hkl hs hin
    have hpc : pieceK M i k s t = ((mP M i, s), (x.1, t)) := by unfold pieceK; rw [emp]
    rw [hpc] at hjc
    have take : joinsB L M i k s t = true → (out.1 = 0 ∨ w.1 + 1 < out.1) → shAll W L M i s (M.length - (k + 1)) (k + 1) (shRow W L M i s k (n - (q + 1)) (x.2.1 + ((q + 1 : Nat) : Int)) (w.1 + 1, (x.1, t), k)) = R := fun a b => by
      rw [if_pos ⟨b, a⟩, emp] at hA; exact hA
    have leave : ¬ ((out.1 = 0 ∨ w.1 + 1 < out.1) ∧ joinsB L M i k s t = true) → shAll W L M i s (M.length - (k + 1)) (k + 1) (shRow W L M i s k (n - (q + 1)) (x.2.1 + ((q + 1 : Nat) : Int)) out) = R := fun a => by
      rw [if_neg a] at hA; exact hA
    have ew : ((w.1 : Int) + 1) = ((w.1 + 1 : Nat) : Int) := by omega
    by_cases ho0 : out.1 = 0
    · (repeat (first | refine yw ?_ | ((first | apply yd | apply ye); simp (disch := first|exact zz|fail) only [go_sem, load_at hc, wayC, dec_t (show ((out.1 : Nat) : Int) = 0 by omega), load_ev k0, n2_at k1, n2_at b13, build_piece]; with_reducible rfl)))
      (refine aops_call_to (hjc) ?_)
      cases hjb : joinsB L M i k s t with
      | true =>
        (refine yg ?_)
        refine cond_t rfl ?_
        have hst := store_atW (w := (w.1 + 1, (x.1, t), k)) hc
        have hst' : storeR 4 (.pointer (some ⟨H.length + 3, 0, none⟩)) (.agg ⟨[.int .i64 ((w.1 + 1 : Nat) : Int), .int .i64 x.1, .int .i64 t, .int .i64 (k : Int)]⟩) G4 = _ := hst
        (repeat (first | refine yw ?_ | ((first | apply yd | apply ye); simp (disch := first|exact zz|fail) only [go_sem, load_at b14', wayC, n2_at b13, ew, fill_way, hst', ht2]; with_reducible rfl)))
        exact ⟨by omega, (w.1 + 1, (x.1, t), k), by simp [forget], hK.set (.inl rfl) _, get_set_self hc, by show w.1 + 1 ≤ 13; omega, take hjb (.inl ho0)⟩
      | false =>
        (refine yg ?_)
        refine cond_f rfl ?_
        (repeat (first | refine yw ?_ | ((first | apply yd | apply ye); simp (disch := first|exact zz|fail) only [go_sem, ht2]; with_reducible rfl)))
        exact ⟨by omega, out, by simp [forget], hK, hc, ho, leave (fun h => by rw [hjb] at h; cases h.2)⟩
    · by_cases hwo : w.1 + 1 < out.1
      · (repeat (first | refine yw ?_ | ((first | apply yd | apply ye); simp (disch := first|exact zz|fail) only [go_sem, load_at hc, load_at b14', wayC, dec_f (show ¬ ((out.1 : Nat) : Int) = 0 by omega), dec_t (show (w.1 : Int) + 1 < ((out.1 : Nat) : Int) by omega), load_ev k0, n2_at k1, n2_at b13, build_piece]; with_reducible rfl)))
        (refine aops_call_to (hjc) ?_)
        cases hjb : joinsB L M i k s t with
        | true =>
          (refine yg ?_)
          refine cond_t rfl ?_
          have hst := store_atW (w := (w.1 + 1, (x.1, t), k)) hc
          have hst' : storeR 4 (.pointer (some ⟨H.length + 3, 0, none⟩)) (.agg ⟨[.int .i64 ((w.1 + 1 : Nat) : Int), .int .i64 x.1, .int .i64 t, .int .i64 (k : Int)]⟩) G4 = _ := hst
          (repeat (first | refine yw ?_ | ((first | apply yd | apply ye); simp (disch := first|exact zz|fail) only [go_sem, load_at b14', wayC, n2_at b13, ew, fill_way, hst', ht2]; with_reducible rfl)))
          exact ⟨by omega, (w.1 + 1, (x.1, t), k), by simp [forget], hK.set (.inl rfl) _, get_set_self hc, by show w.1 + 1 ≤ 13; omega, take hjb (.inr hwo)⟩
        | false =>
          (refine yg ?_)
          refine cond_f rfl ?_
          (repeat (first | refine yw ?_ | ((first | apply yd | apply ye); simp (disch := first|exact zz|fail) only [go_sem, ht2]; with_reducible rfl)))
          exact ⟨by omega, out, by simp [forget], hK, hc, ho, leave (fun h => by rw [hjb] at h; cases h.2)⟩
      · (repeat (first | refine yw ?_ | ((first | apply yd | apply ye); simp (disch := first|exact zz|fail) only [go_sem, load_at hc, load_at b14', wayC, dec_f (show ¬ ((out.1 : Nat) : Int) = 0 by omega), dec_f (show ¬ (w.1 : Int) + 1 < ((out.1 : Nat) : Int) by omega)]; with_reducible rfl)))
        refine cond_f rfl ?_
        (repeat (first | refine yw ?_ | ((first | apply yd | apply ye); simp (disch := first|exact zz|fail) only [go_sem, ht2]; with_reducible rfl)))
        exact ⟨by omega, out, by simp [forget], hK, hc, ho, leave (fun h => by rcases h.1 with a | a <;> omega)⟩
end
end Go.Lq

namespace Go.Lq
open Go
open Go.Proofs

theorem Chain.few {L : Int × Int} {M : List Mark} {i : Nat} {s : Int} {n : Nat} (h : Chain L M i s n) : n + i ≤ M.length := by
  induction h with
  | last hi _ => omega
  | step _ hik _ _ ih => omega
theorem tab_low {L : Int × Int} {M : List Mark} : ∀ {r k : Nat} {t : Int} {w : Way}, r ≤ M.length → tabN L M r k t = some w → M.length - r ≤ k ∧ k < M.length
  | 0, k, t, w, _, h => by cases h
  | r + 1, k, t, w, hr, h => by
    unfold tabN at h
    by_cases hk : k = M.length - 1 - r
    · omega
    · rw [if_neg hk] at h
      have := tab_low (by omega) h
      omega
theorem tab_stable {L : Int × Int} {M : List Mark} {k : Nat} {t : Int} (hk : k < M.length) : ∀ {d : Nat}, M.length - k + d ≤ M.length → tabN L M (M.length - k + d) k t = tabN L M (M.length - k) k t
  | 0, _ => rfl
  | d + 1, h => by
    have ih := tab_stable (L := L) (t := t) hk (d := d) (by omega)
    rw [← ih]
    show tabN L M (M.length - k + d + 1) k t = _
    rw [tabN, if_neg (by omega)]
noncomputable def tabK (L : Int × Int) (M : List Mark) (k : Nat) (t : Int) : Option Way := tabN L M (M.length - k) k t
noncomputable def outK (L : Int × Int) (M : List Mark) (k : Nat) (t : Int) : Way := shAll (fun a b => (tabN L M (M.length - (k + 1)) a b).map (·.1)) L M k t (M.length - (k + 1)) (k + 1) zeroW
section
variable {L : Int × Int} {M : List Mark} {k : Nat} {t : Int}
theorem tabK_last (hk : k + 1 = M.length) (h : inR M k t) : tabK L M k t = some (1, (0, 0), 0) := by
  unfold tabK
  have h' : (M.getD k (0, 0, 0)).2.1 ≤ t ∧ t ≤ (M.getD k (0, 0, 0)).2.2 := h
  rw [show M.length - k = 0 + 1 by omega, tabN, if_pos (by omega), if_pos h', if_pos rfl]
theorem tabK_mid (hk : k + 1 < M.length) (h : inR M k t) : tabK L M k t = if 0 < (outK L M k t).1 then some (outK L M k t) else none := by
  unfold tabK outK
  have h' : (M.getD k (0, 0, 0)).2.1 ≤ t ∧ t ≤ (M.getD k (0, 0, 0)).2.2 := h
  rw [show M.length - k = M.length - (k + 1) + 1 by omega, tabN, if_pos (by omega), if_pos h', if_neg (by omega)]
theorem tabK_of (hk : k < M.length) {r : Nat} (h1 : M.length - k ≤ r) (h2 : r ≤ M.length) : tabN L M r k t = tabK L M k t := by
  have := tab_stable (L := L) (t := t) hk (d := r - (M.length - k)) (by omega)
  rw [show M.length - k + (r - (M.length - k)) = r by omega] at this
  exact this
theorem tabK_spec (hk : k < M.length) : (∀ w, tabK L M k t = some w → Chain L M k t w.1 ∧ ∀ n, Chain L M k t n → w.1 ≤ n) ∧ (tabK L M k t = none → ∀ n, ¬ Chain L M k t n) := tabN_spec (by omega) (by omega) hk
theorem tab_few {r : Nat} (hr : r ≤ M.length) (h12 : M.length ≤ 12) {w : Way} (h : tabN L M r k t = some w) : w.1 ≤ 12 := by
  obtain ⟨a, b⟩ := tab_low hr h
  rw [tabK_of b (by omega) hr] at h
  have := ((tabK_spec b).1 w h).1.few
  omega
theorem tab_next (hk : k < M.length) {w : Way} (h : tabK L M k t = some w) (h1 : 1 < w.1) : ∃ a c w', k < a ∧ a < M.length ∧ inR M a c ∧ Joins L M k a t c ∧ w.2 = ((mP M a, c), a) ∧ tabK L M a c = some w' ∧ w'.1 + 1 = w.1 := by
  have hch := ((tabK_spec hk).1 w h).1
  have hin := hch.inR
  by_cases hl : k + 1 = M.length
  · rw [tabK_last hl hin] at h
    cases h
    exact absurd h1 (Nat.lt_irrefl 1)
  · rw [tabK_mid (by omega) hin] at h
    have kept := Kept.all (W := fun a b => (tabN L M (M.length - (k + 1)) a b).map (·.1)) (L := L) (M := M) (i := k) (s := t) (n := M.length - (k + 1)) (k := k + 1) (Kept.zero (z := ((0, 0), 0)))
    have kept : Kept (fun a b => (tabN L M (M.length - (k + 1)) a b).map (·.1)) L M k t (fun a b => False ∨ (k + 1 ≤ a ∧ a < k + 1 + (M.length - (k + 1)) ∧ inR M a b)) (outK L M k t) := kept
    split at h
    · rename_i h0
      cases h
      obtain ⟨a, c, hc, hj, hw, he⟩ := kept.is h0
      obtain ⟨c1, c2, c3⟩ := hc.resolve_left id
      have hw : (tabN L M (M.length - (k + 1)) a c).map (·.1) = some ((outK L M k t).1 - 1) := hw
      rw [tabK_of (by omega) (by omega) (by omega)] at hw
      cases hq : tabK L M a c with
      | none => rw [hq] at hw; cases hw
      | some q =>
        rw [hq] at hw
        have hq1 : q.1 = (outK L M k t).1 - 1 := by simpa using hw
        exact ⟨a, c, q, by omega, by omega, c3, (joinsB_iff (by omega)).1 hj, he, hq, by omega⟩
    · cases h
theorem tab_one (hk : k < M.length) {w : Way} (h : tabK L M k t = some w) (h1 : w.1 ≤ 1) : k + 1 = M.length ∧ inR M k t := by
  have hch := ((tabK_spec hk).1 w h).1
  have h0 := hch.lt.2
  have : w.1 = 1 := by omega
  rw [this] at hch
  refine ⟨?_, hch.inR⟩
  cases hch with
  | last hi _ => exact hi
  | step _ _ _ hc => exact absurd hc.lt.2 (by omega)
end
theorem mP_inj {L : Int × Int} {M : List Mark} (h : EvOk L M) {i k : Nat} (hi : i < M.length) (hk : k < M.length) (e : mP M i = mP M k) : i = k := by
  rcases Nat.lt_trichotomy i k with a | a | a
  · have := h.lt a hk; unfold mP at e; omega
  · exact a
  · have := h.lt a hi; unfold mP at e; omega

structure MapAt (L : Int × Int) (M : List Mark) (i : Nat) (t : Int) (m : Ents) : Prop where
  get : ∀ k b, k < M.length → (i < k ∨ (k = i ∧ b < t)) → inR M k b → getP m (mP M k, b) = (tabK L M k b).map wayV
  only : ∀ p, getP m p ≠ none → ∃ k b, p = (mP M k, b) ∧ k < M.length ∧ (i < k ∨ (k = i ∧ b < t)) ∧ inR M k b
section
variable {L : Int × Int} {M : List Mark} {i : Nat} {t : Int} {m : Ents}
theorem MapAt.start (hi : i + 1 = M.length) (ht : t ≤ (M.getD i (0, 0, 0)).2.1) : MapAt L M i t [] :=
  ⟨fun k b hk h hr => by
    unfold inR at hr
    rcases h with h | ⟨rfl, h⟩ <;> omega, fun p h => absurd (getP_none p) h⟩
theorem MapAt.down (h : MapAt L M (i + 1) t m) (ht : (M.getD (i + 1) (0, 0, 0)).2.2 < t) : MapAt L M i (M.getD i (0, 0, 0)).2.1 m := by
  refine ⟨fun k b hk hc hr => h.get k b hk ?_ hr, fun p hp => ?_⟩
  · unfold inR at hr
    rcases hc with hc | ⟨rfl, hc⟩
    · by_cases e : k = i + 1
      · subst e; exact .inr ⟨rfl, by omega⟩
      · exact .inl (by omega)
    · omega
  · obtain ⟨k, b, e, hk, hc, hr⟩ := h.only p hp
    exact ⟨k, b, e, hk, .inl (by omega), hr⟩
theorem MapAt.some (he : EvOk L M) (h : MapAt L M i t m) (hi : i < M.length) (hr : inR M i t) {w : Way} (hw : tabK L M i t = .some w) : MapAt L M i (t + 1) (putP (mP M i, t) (wayV w) m) := by
  refine ⟨fun k b hk hc hrb => ?_, fun p hp => ?_⟩
  · rw [getP_put]
    by_cases e : (mP M i, t) = (mP M k, b)
    · rw [if_pos e]
      have e1 := mP_inj he hi hk (Prod.mk.inj e).1
      have e2 : t = b := (Prod.mk.inj e).2
      subst e1; subst e2
      rw [hw]; rfl
    · rw [if_neg e]
      refine h.get k b hk ?_ hrb
      rcases hc with hc | ⟨rfl, hc⟩
      · exact .inl hc
      · refine .inr ⟨rfl, ?_⟩
        by_cases e2 : b = t
        · subst e2; exact absurd rfl e
        · omega
  · rw [getP_put] at hp
    by_cases e : (mP M i, t) = p
    · exact ⟨i, t, e.symm, hi, .inr ⟨rfl, by omega⟩, hr⟩
    · rw [if_neg e] at hp
      obtain ⟨k, b, e, hk, hc, hr⟩ := h.only p hp
      refine ⟨k, b, e, hk, ?_, hr⟩
      rcases hc with hc | ⟨rfl, hc⟩
      · exact .inl hc
      · exact .inr ⟨rfl, by omega⟩
theorem MapAt.none (he : EvOk L M) (h : MapAt L M i t m) (hi : i < M.length) (hw : tabK L M i t = .none) : MapAt L M i (t + 1) m := by
  refine ⟨fun k b hk hc hrb => ?_, fun p hp => ?_⟩
  · by_cases e : k = i ∧ b = t
    · obtain ⟨rfl, rfl⟩ := e
      rw [hw]
      cases hp : getP m (mP M k, b) with
      | none => rfl
      | some x =>
        obtain ⟨k', b', e, hk', hc', _⟩ := h.only _ (by rw [hp]; simp)
        have e1 := mP_inj he hk hk' (Prod.mk.inj e).1
        have e2 : b = b' := (Prod.mk.inj e).2
        omega
    · refine h.get k b hk ?_ hrb
      rcases hc with hc | ⟨rfl, hc⟩
      · exact .inl hc
      · refine .inr ⟨rfl, ?_⟩
        by_cases e2 : b = t
        · exact absurd ⟨rfl, e2⟩ e
        · omega
  · obtain ⟨k, b, e, hk, hc, hr⟩ := h.only p hp
    refine ⟨k, b, e, hk, ?_, hr⟩
    rcases hc with hc | ⟨rfl, hc⟩
    · exact .inl hc
    · exact .inr ⟨rfl, by omega⟩
theorem MapAt.any (h : MapAt L M i t m) (p : Int × Int) : ∃ o : Option Way, getP m p = o.map wayV := by
  cases hp : getP m p with
  | none => exact ⟨.none, rfl⟩
  | some x =>
    obtain ⟨k, b, rfl, hk, hc, hr⟩ := h.only p (by rw [hp]; simp)
    have := h.get k b hk hc hr
    rw [hp] at this
    exact ⟨_, this⟩
end
def BestAt (L : Int × Int) (M : List Mark) (t : Int) (best : Int × Int) : Prop :=
  (best = (0, 0) ∧ ∀ b, inR M 0 b → b < t → tabK L M 0 b = none) ∨
  ∃ b w, best = (mP M 0, b) ∧ inR M 0 b ∧ b < t ∧ tabK L M 0 b = some w ∧ ∀ b' w', inR M 0 b' → b' < t → tabK L M 0 b' = some w' → w.1 ≤ w'.1
section
variable {L : Int × Int} {M : List Mark} {t : Int} {best : Int × Int}
theorem BestAt.start (ht : t ≤ (M.getD 0 (0, 0, 0)).2.1) : BestAt L M t (0, 0) := .inl ⟨rfl, fun b hb h => by unfold inR at hb; omega⟩
theorem BestAt.skip (h : BestAt L M t best) (hw : tabK L M 0 t = none) : BestAt L M (t + 1) best := by
  rcases h with ⟨h1, h2⟩ | ⟨b, w, h1, h2, h3, h4, h5⟩
  · refine .inl ⟨h1, fun b hb h => ?_⟩
    by_cases e : b = t
    · subst e; exact hw
    · exact h2 b hb (by omega)
  · refine .inr ⟨b, w, h1, h2, by omega, h4, fun b' w' hb h hw' => ?_⟩
    by_cases e : b' = t
    · subst e; rw [hw] at hw'; cases hw'
    · exact h5 b' w' hb (by omega) hw'
end
end Go.Lq

namespace Go.Lq
open Go
open Go.Proofs

def backM (M : List Mark) : Nat → List (List Value)
  | 0 => []
  | n + 1 => [.int .i64 n, markV (M.getD n (0, 0, 0))] :: backM M n
def wideB (x : Mark) : Bool := decide (40 ≤ x.2.2 - x.2.1)
def fewE (L : Int × Int) (M : List Mark) : Int := firstErr [evErrL L M, (if 2 ≤ M.length then 0 else 10)]
def fewErr (L : Int × Int) (M : List Mark) : Int := if fewE L M ≠ 0 then fewE L M else if (idxF wideB M 0 M.length).isSome = true then 8 else 0
theorem fewE_ok {L : Int × Int} {M : List Mark} (h : fewE L M = 0) : EvOk L M ∧ 2 ≤ M.length := by
  unfold fewE at h
  by_cases h1 : evErrL L M = 0
  · refine ⟨evErr_ok h1, ?_⟩
    refine Decidable.byContradiction fun hn => ?_
    rw [h1, firstErr_z, if_neg hn, firstErr_e (by decide)] at h; cases h
  · rw [firstErr_e h1] at h; exact absurd h h1
def FewRes (L : Int × Int) (M : List Mark) (l : List (Int × Int)) (e : Int) : Prop :=
  (fewErr L M ≠ 0 ∧ e = fewErr L M ∧ l = []) ∨ (fewErr L M = 0 ∧ e = 13 ∧ l = [] ∧ ∀ s n, ¬ Chain L M 0 s n) ∨
  (fewErr L M = 0 ∧ e = 0 ∧ ∃ s, ChainL L M 0 s l ∧ ∀ s' n, Chain L M 0 s' n → l.length ≤ n)

section
variable {H : AHeap} {L : Int × Int} {M : List Mark} {v : Value}
theorem wide_c {x : Mark} (x1 : 0 ≤ x.2.1 ∧ x.2.1 ≤ 1000000000000) (x2 : 0 ≤ x.2.2 ∧ x.2.2 ≤ 1000000000000) : ACall Go.Proofs.Tryz.prog 54 [markV x] H fun w H' => w = .bool (wideB x) ∧ H' = H := by
  refine ACall.drop (.bool _) ?_
  (refine a54 ?_; simp only [n54, List.replicate, yq, yr, yt, yu]; first | refine q1 ?_ | refine q2 ?_ | refine q6 ?_ | refine q7 ?_ | refine qh rfl ?_ | skip)
  have g0 : (H ++ [AObj.cells true 0 (markC x)])[H.length]? = some (.cells true 0 (markC x)) := at_new
  have xG : Ext H (H ++ [AObj.cells true 0 (markC x)]) := (Ext.refl H).app _
  (repeat (first | refine yv ?_ | (apply yd; simp (disch := first|exact zz|fail) only [go_sem, box_mark]; with_reducible rfl)))
  generalize (H ++ [AObj.cells true 0 (markC x)] : AHeap) = G at g0 xG
  (repeat (first | refine yw ?_ | ((first | apply yd | apply ye); simp (disch := first|exact zz|fail) only [go_sem, load_at g0, markC]; with_reducible rfl)))
  exact fin_1 ⟨rfl, xG⟩
theorem backward_c (hv : isAtom v = true) : ACall Go.Proofs.Tryz.prog 56 [v] H fun v1 H' =>
    v1 = .func (.func 80) #[] #[.pointer (some ⟨H.length, 0, none⟩)] ∧ H' = H ++ [.cells true 0 [v]] := by
  have hbx : ∀ J : AHeap, boxR v J = some (.pointer (some ⟨J.length, 0, none⟩), J ++ [.cells true 0 [v]]) := fun J => by
    have e1 : v.cells.toList = [v] := by cases v <;> first | rfl | cases hv
    simp [boxR, e1, hv]
  (refine a56 ?_; simp only [n56, List.replicate, yq, yr, yt, yu]; first | refine q1 ?_ | refine q2 ?_ | refine q6 ?_ | refine q7 ?_ | refine qh rfl ?_ | skip)
  (repeat (first | refine yw ?_ | ((first | apply yd | apply ye); simp (disch := first|exact zz|fail) only [go_sem, hbx]; with_reducible rfl)))
  refine fin_1 ⟨?_, rfl⟩
  simp [go_sem]
theorem back1_c {idb : Nat} (hb : M.length ≤ 1000) : GenA Go.Proofs.Tryz.prog 80 [] [.pointer (some ⟨idb, 0, none⟩)] (fun H => H[idb]? = some (.cells true 0 [v]) ∧ Tris H M v) (backM M M.length) := by
  intro lp I S H hF hround hI0
  show ACall _ _ [.func (.yield lp) #[] #[], .pointer (some ⟨idb, 0, none⟩)] _ _
  obtain ⟨f1, f2⟩ := hF _ _ hI0
  (refine a80 ?_; simp only [n80, List.replicate, yq, yr, yt, yu]; first | refine q1 ?_ | refine q2 ?_ | refine q6 ?_ | refine q7 ?_ | refine qh rfl ?_ | skip)
  (repeat (first | refine yw ?_ | ((first | apply yd | apply ye); simp (disch := first|exact zz|fail) only [go_sem, f2.len, f2.idx, f2.load, load1 f1]; with_reducible rfl)))
  refine awp_loop_n [true, true, false, true, false, false, false, false, false, false, false, false, false, false, false, false, false, false, false] M.length (fun j e H' => ∃ i, i + j = M.length ∧ e = [.func (.yield lp) #[] #[], .pointer (some ⟨idb, 0, none⟩), junk, .int .i64 ((i : Int) - 1), junk, junk, junk, junk, junk, junk, junk, junk, junk, junk, junk, junk, junk, junk, junk] ∧ I (backM M i) H') ?_ ?_
  · exact ⟨M.length, by omega, by simp [forget], hI0⟩
  rintro j e H1 hj ⟨i, hij, rfl, hI⟩
  obtain ⟨f1', f2'⟩ := hF _ _ hI
  (refine yg ?_)
  refine cond_p rfl (fun hlt => ?_) (fun hge => ?_)
  rotate_left 1
  · obtain rfl : i = 0 := by omega
    (refine yg ?_)
    exact ⟨.inl rfl, undef, rfl, .inl hI⟩
  match i, hij, hI, hlt with
  | i + 1, hij, hI, _ =>
  have e1 : ((i + 1 : Nat) : Int) - 1 = (i : Int) := by omega
  rw [e1]
  have hix := f2'.idx (H' := H1) (i := (i : Int)) (k := .i64) (by omega) (by omega)
  rw [Int.toNat_natCast] at hix
  have hm0 := (f2'.load (Ext.refl H1) (i := i) (by omega)).1
  (repeat (first | refine yw ?_ | ((first | apply yd | apply ye); simp (disch := first|exact zz|fail) only [go_sem, load1 f1', hix, hm0]; with_reducible rfl)))
  refine aops_call ((hround _ _ _ hI).mono fun w H3 h => ?_)
  rcases h with ⟨rfl, hI3⟩ | ⟨rfl, hS⟩
  · (refine yg ?_)
    refine cond_f rfl ?_
    (refine yg ?_)
    exact ⟨by omega, i, by omega, by simp [forget], hI3⟩
  · (refine yg ?_)
    refine cond_t rfl ?_
    (refine yg ?_)
    exact ⟨.inr rfl, undef, rfl, .inr hS⟩
end
end Go.Lq
