/- SpeedFewest is proved: for every input that can be read the law returns true, and each argument reads afterwards as it read before; nothing is asked of package variables. -/
import Derived.Test.YteimgikhanhgiaaV103
set_option linter.unusedSimpArgs false
set_option linter.unnecessarySimpa false
set_option linter.unusedVariables false
set_option linter.unusedSectionVars false
set_option maxRecDepth 100000
namespace Go.Lq
open Go
open Go.Proofs
section
variable {H : AHeap} {L : Int × Int} {M : List Mark} {v : Value}
set_option maxRecDepth 100000 in
set_option maxHeartbeats 16000000 in
theorem rFewest_c (hl : Tris H M v) (hk : EvOk L M) (h0 : 0 < M.length) (hw : ∀ i, i < M.length → widN M i ≤ 1000) {n0 : Nat} (hb : BestN L M n0) : ACall Go.Proofs.Try.prog 58 [evV L v] H fun w H' => w = .int .i64 (n0 : Nat) ∧ H' = H := by
  refine ACall.drop (.int _ _) ?_
  have hlen := hk.len
  (refine a58 ?_; simp only [n58, List.replicate, yq, yr, yt, yu]; first | refine Go.Lq.q1 ?_ | refine Go.Lq.q2 ?_ | refine Go.Lq.q6 ?_ | refine Go.Lq.q7 ?_ | refine Go.Lq.qh rfl ?_ | skip)
  have g0 : (H ++ [AObj.cells true 0 (evC L v)])[H.length]? = some (.cells true 0 (evC L v)) := at_new
  have xG : Ext H (H ++ [AObj.cells true 0 (evC L v)]) := (Ext.refl H).app _
  (repeat (first | refine yv ?_ | (apply yd; simp (disch := first|exact zz|fail) only [go_sem, box_ev hl.atom]; with_reducible rfl)))
  generalize (H ++ [AObj.cells true 0 (evC L v)] : AHeap) = G at g0 xG
  have hl1 := hl.ext xG
  refine awp_loop_n [false, true, false, true, true, false, false, false, false, false, false, false, false, false, false, false, false, false, false, false, false, false, false, false, false, false, false, false, false, false, false, false, false, false, false, false, false, false, false, false, false, false, false, false, false, false, false, false, false, false, false, false, false, false, false, false, false, false, false, false, false, false, false, false, false, false, false, false, false, false, false, false, false, false, false, false, false, false, false, false, false, false, false, false, false, false, false, false, false, false, false, false, false, false, false, false, false, false, false, false, false, false, false, false, false, false, false, false, false, false, false, false, false, false, false, false, false, false, false, false, false, false, false, false, false, false, false, false, false, false, false, false, false, false, false, false, false, false, false, false, false, false, false] M.length (fun k e J => ∃ ll tv, e = [junk, .pointer (some ⟨H.length, 0, none⟩), junk, tv, .int .i64 k, junk, junk, junk, junk, junk, junk, junk, junk, junk, junk, junk, junk, junk, junk, junk, junk, junk, junk, junk, junk, junk, junk, junk, junk, junk, junk, junk, junk, junk, junk, junk, junk, junk, junk, junk, junk, junk, junk, junk, junk, junk, junk, junk, junk, junk, junk, junk, junk, junk, junk, junk, junk, junk, junk, junk, junk, junk, junk, junk, junk, junk, junk, junk, junk, junk, junk, junk, junk, junk, junk, junk, junk, junk, junk, junk, junk, junk, junk, junk, junk, junk, junk, junk, junk, junk, junk, junk, junk, junk, junk, junk, junk, junk, junk, junk, junk, junk, junk, junk, junk, junk, junk, junk, junk, junk, junk, junk, junk, junk, junk, junk, junk, junk, junk, junk, junk, junk, junk, junk, junk, junk, junk, junk, junk, junk, junk, junk, junk, junk, junk, junk, junk, junk, junk, junk, junk, junk, junk] ∧ Ext G J ∧ OwnL G J ll tv ∧ ll.length = k ∧ ∀ r, r < k → RowOk L M r (widN M r) (ll.getD r [])) ?_ ?_
  · exact ⟨[], _, by simp [forget], Ext.refl _, OwnL.nil _ _, rfl, fun r hr => by omega⟩
  rintro k e J hkl ⟨ll, tv, rfl, x1, hol, hll, hrows⟩
  have hlJ := hl1.ext x1
  have k0 := x1.cell g0
  have xJ := xG.trans x1
  (repeat (first | refine yw ?_ | ((first | apply yd | apply ye); simp (disch := first|exact zz|fail) only [go_sem, hlJ.len, hlJ.idx, hlJ.load, load_at k0, evC]; with_reducible rfl)))
  refine cond_p rfl (fun hlt => ?_) (fun hge => ?_)
  rotate_left 1
  · obtain rfl : k = M.length := by omega
    obtain ⟨vs, hT⟩ := hol.lists
    obtain ⟨z, hz⟩ : ∃ z, M.length - 1 = z := ⟨_, rfl⟩
    have e5 : (M.length : Int) - 1 = (z : Int) := by omega
    have hzl : z < M.length := by omega
    have hrowz := hrows z hzl
    have hrz := hT.row (k := z) (by omega)
    have hrv := hT.load (Ext.refl _) (k := z) (by omega)
    have hrix := hT.idx (H' := J) (i := (z : Int)) (k := .i64) (by omega) (by omega)
    rw [Int.toNat_natCast] at hrix
    have hTl := hT.len (H' := J)
    rw [hll] at hTl
    generalize ll.getD z [] = rowz at hrowz hrz
    generalize vs.getD z undef = rvz at hrz hrv
    have hwz := hw z hzl
    have hlen2 := hrowz.1
    unfold BestN at hb
    rw [hz] at hb
    (repeat (first | refine yw ?_ | ((first | apply yd | apply ye); simp (disch := first|exact zz|fail) only [go_sem, hTl, e5, hrix, hrv]; with_reducible rfl)))
    refine awp_loop_n [false, false, false, false, false, false, false, false, false, false, false, true, true, true, false, false, false, false, false, false, false, false, false, false, false, false, false, false, false, false, false, false, false, false, false, false, false, false, false, false, false, false, false, false, false, false, false, false, false, false, false, false, false, false, false, false, false, false, false, false, false, false, false, false, false, false, false, false, false, false, false, false, false, false, false, false, false, false, false, false, false, false, false, false, false, false, false, false, false, false, false, false, false, false, false, false, false, false, false, false, false, false, false, false, false, false, false, false, false, false, false, false, false, false, false, false, false, false, false, false, false, false, false, false, false, false, false, false, false, false, false, false, false, false, false, false, false, false, false, false, false, false, false] (widN M z) (fun i e J2 => ∃ best : Nat, e = [junk, junk, junk, junk, junk, junk, junk, junk, junk, junk, junk, .int .i64 (best : Nat), rvz, .int .i64 i, junk, junk, junk, junk, junk, junk, junk, junk, junk, junk, junk, junk, junk, junk, junk, junk, junk, junk, junk, junk, junk, junk, junk, junk, junk, junk, junk, junk, junk, junk, junk, junk, junk, junk, junk, junk, junk, junk, junk, junk, junk, junk, junk, junk, junk, junk, junk, junk, junk, junk, junk, junk, junk, junk, junk, junk, junk, junk, junk, junk, junk, junk, junk, junk, junk, junk, junk, junk, junk, junk, junk, junk, junk, junk, junk, junk, junk, junk, junk, junk, junk, junk, junk, junk, junk, junk, junk, junk, junk, junk, junk, junk, junk, junk, junk, junk, junk, junk, junk, junk, junk, junk, junk, junk, junk, junk, junk, junk, junk, junk, junk, junk, junk, junk, junk, junk, junk, junk, junk, junk, junk, junk, junk, junk, junk, junk, junk, junk, junk] ∧ J2 = J ∧ best ≤ M.length ∧ (best = 0 ∨ (0 < best ∧ ∃ t, Chain0 L M z t best)) ∧ ∀ q, q < i → ∀ m, Chain0 L M z ((M.getD z (0, 0, 0)).2.1 + (q : Int)) m → 0 < best ∧ best ≤ m) ?_ ?_
    · exact ⟨0, by simp [forget], rfl, by omega, .inl rfl, fun q hq => by omega⟩
    rintro i e J2 hi ⟨best, rfl, rfl, hbl, hb1, hb2⟩
    (repeat (first | refine yw ?_ | ((first | apply yd | apply ye); simp (disch := first|exact zz|fail) only [go_sem, hrz.len, hrz.idx, hrz.load]; with_reducible rfl)))
    refine cond_p rfl (fun hlt2 => ?_) (fun hge2 => ?_)
    rotate_left 1
    · have hiw : i = widN M z := by omega
      have hB : BestN L M best := by
        unfold BestN
        rw [hz]
        refine ⟨hb1, fun t m hc => ?_⟩
        have hr := hc.inR.1
        unfold inR at hr
        have hwd : widN M z = ((M.getD z (0, 0, 0)).2.2 - (M.getD z (0, 0, 0)).2.1 + 1).toNat := rfl
        have := hb2 (t - (M.getD z (0, 0, 0)).2.1).toNat (by omega) m
        rw [show (M.getD z (0, 0, 0)).2.1 + ((t - (M.getD z (0, 0, 0)).2.1).toNat : Int) = t by omega] at this
        exact this hc
      have hb0 : BestN L M n0 := by unfold BestN; rw [hz]; exact hb
      rw [hB.one hb0]
      (refine yg ?_)
      exact fin_1 ⟨rfl, xJ⟩
    have hiw : i < widN M z := by omega
    obtain ⟨n, hn1, hn2, hn3⟩ := hrowz.2 i hiw
    have hel := hrz.load (Ext.refl J2) (k := i) (by omega)
    rw [hn1] at hel
    have hex := hrz.idx (H' := J2) (i := (i : Int)) (k := .i64) (by omega) (by omega)
    rw [Int.toNat_natCast] at hex
    have e1 : (i : Int) + 1 = ((i + 1 : Nat) : Int) := by omega
    have keep : (n = 0 ∨ (0 < best ∧ best ≤ n)) → ∀ q, q < i + 1 → ∀ m, Chain0 L M z ((M.getD z (0, 0, 0)).2.1 + (q : Int)) m → 0 < best ∧ best ≤ m := fun ho q hq m hc => by
      by_cases e : q = i
      · subst e
        have := hn3.2 m hc
        omega
      · exact hb2 q (by omega) m hc
    have new : 0 < n → (best = 0 ∨ n < best) → (n = 0 ∨ (0 < n ∧ ∃ t, Chain0 L M z t n)) ∧ ∀ q, q < i + 1 → ∀ m, Chain0 L M z ((M.getD z (0, 0, 0)).2.1 + (q : Int)) m → 0 < n ∧ n ≤ m := fun hpos ho => by
      refine ⟨?_, fun q hq m hc => ?_⟩
      · rcases hn3.1 with h | ⟨h1, h2⟩
        · exact .inl h
        · exact .inr ⟨h1, _, h2⟩
      · by_cases e : q = i
        · subst e; exact hn3.2 m hc
        · have := hb2 q (by omega) m hc
          omega
    by_cases hn : (n : Int) > 0
    rotate_left 1
    · (repeat (first | refine yw ?_ | ((first | apply yd | apply ye); simp (disch := first|exact zz|fail) only [go_sem, hex, hel, dec_f hn]; with_reducible rfl)))
      refine cond_f rfl ?_
      (repeat (first | refine yw ?_ | ((first | apply yd | apply ye); simp (disch := first|exact zz|fail) only [go_sem, e1]; with_reducible rfl)))
      exact ⟨by omega, best, by simp [forget], rfl, hbl, hb1, keep (.inl (by omega))⟩
    by_cases ho : ((best : Nat) : Int) = 0
    · have hnew := new (by omega) (.inl (by omega))
      (repeat (first | refine yw ?_ | ((first | apply yd | apply ye); simp (disch := first|exact zz|fail) only [go_sem, hex, hel, dec_t hn, dec_t ho]; with_reducible rfl)))
      refine cond_t rfl ?_
      (repeat (first | refine yw ?_ | ((first | apply yd | apply ye); simp (disch := first|exact zz|fail) only [go_sem, hex, hel, e1]; with_reducible rfl)))
      exact ⟨by omega, n, by simp [forget], rfl, by omega, hnew.1, hnew.2⟩
    by_cases hlt3 : ((n : Nat) : Int) < ((best : Nat) : Int)
    · have hnew := new (by omega) (.inr (by omega))
      (repeat (first | refine yw ?_ | ((first | apply yd | apply ye); simp (disch := first|exact zz|fail) only [go_sem, hex, hel, dec_t hn, dec_f ho, dec_t hlt3]; with_reducible rfl)))
      refine cond_t rfl ?_
      (repeat (first | refine yw ?_ | ((first | apply yd | apply ye); simp (disch := first|exact zz|fail) only [go_sem, hex, hel, e1]; with_reducible rfl)))
      exact ⟨by omega, n, by simp [forget], rfl, by omega, hnew.1, hnew.2⟩
    · (repeat (first | refine yw ?_ | ((first | apply yd | apply ye); simp (disch := first|exact zz|fail) only [go_sem, hex, hel, dec_t hn, dec_f ho, dec_f hlt3]; with_reducible rfl)))
      refine cond_f rfl ?_
      (repeat (first | refine yw ?_ | ((first | apply yd | apply ye); simp (disch := first|exact zz|fail) only [go_sem, e1]; with_reducible rfl)))
      exact ⟨by omega, best, by simp [forget], rfl, hbl, hb1, keep (.inr (by omega))⟩
  have hkm : k < M.length := by omega
  have a1 := hk.t1 k hkm
  have a2 := hk.t2 k hkm
  have a3 := hk.lohi k hkm
  have a4' := hw k hkm
  obtain ⟨vs, hT⟩ := hol.lists
  obtain ⟨lo, hlo⟩ : ∃ lo, (M.getD k (0, 0, 0)).2.1 = lo := ⟨_, rfl⟩
  obtain ⟨hi, hhi⟩ : ∃ hi, (M.getD k (0, 0, 0)).2.2 = hi := ⟨_, rfl⟩
  have hwid : widN M k = (hi - lo + 1).toNat := by unfold widN; rw [hlo, hhi]
  rw [hlo] at a1 a3
  rw [hhi] at a2 a3
  (repeat (first | refine yw ?_ | ((first | apply yd | apply ye); simp (disch := first|exact zz|fail) only [go_sem, hlJ.len, hlJ.idx, hlJ.load, load_at k0, evC, hlo]; with_reducible rfl)))
  refine awp_loop_n [false, true, false, true, true, true, true, false, false, false, false, false, false, false, false, false, false, false, false, false, false, false, false, false, false, false, false, false, false, false, false, false, false, false, false, false, false, false, false, false, false, false, false, false, false, false, false, false, false, false, false, false, false, false, false, false, false, false, false, false, false, false, false, false, false, false, false, false, false, false, false, false, false, false, false, false, false, false, false, false, false, false, false, false, false, false, false, false, false, false, false, false, false, false, false, false, false, false, false, false, false, false, false, false, false, false, false, false, false, false, false, false, false, false, false, false, false, false, false, false, false, false, false, false, false, false, false, false, false, false, false, false, false, false, false, false, false, false, false, false, false, false, false] (widN M k) (fun j e J2 => ∃ row rv, e = [junk, .pointer (some ⟨H.length, 0, none⟩), junk, tv, .int .i64 k, rv, .int .i64 (lo + (j : Int)), junk, junk, junk, junk, junk, junk, junk, junk, junk, junk, junk, junk, junk, junk, junk, junk, junk, junk, junk, junk, junk, junk, junk, junk, junk, junk, junk, junk, junk, junk, junk, junk, junk, junk, junk, junk, junk, junk, junk, junk, junk, junk, junk, junk, junk, junk, junk, junk, junk, junk, junk, junk, junk, junk, junk, junk, junk, junk, junk, junk, junk, junk, junk, junk, junk, junk, junk, junk, junk, junk, junk, junk, junk, junk, junk, junk, junk, junk, junk, junk, junk, junk, junk, junk, junk, junk, junk, junk, junk, junk, junk, junk, junk, junk, junk, junk, junk, junk, junk, junk, junk, junk, junk, junk, junk, junk, junk, junk, junk, junk, junk, junk, junk, junk, junk, junk, junk, junk, junk, junk, junk, junk, junk, junk, junk, junk, junk, junk, junk, junk, junk, junk, junk, junk, junk, junk] ∧ Ext J J2 ∧ OwnI J J2 row rv ∧ RowOk L M k j row) ?_ ?_
  · exact ⟨[], _, by simp [forget], Ext.refl _, OwnI.nil _ _, rfl, fun j hj => by omega⟩
  rintro j e J2 hj ⟨row, rv, rfl, x2, hor, hrow⟩
  have hl2 := hlJ.ext x2
  have k2 := x2.cell k0
  have hT2 := hT.ext x2
  have xJ2 := xJ.trans x2
  (repeat (first | refine yw ?_ | ((first | apply yd | apply ye); simp (disch := first|exact zz|fail) only [go_sem, hl2.len, hl2.idx, hl2.load, load_at k2, evC, hhi]; with_reducible rfl)))
  refine cond_p rfl (fun hle => ?_) (fun hgt => ?_)
  rotate_left 1
  · obtain rfl : j = widN M k := by omega
    obtain ⟨v3, H3, ha, ho3, hx3⟩ := hol.pushRow x1 x2 hor (by rw [hrow.1]; omega) (by omega)
    obtain ⟨sa, sn, sc, rfl⟩ := hor.shape
    (repeat (first | refine yw ?_ | ((first | apply yd | apply ye); simp (disch := first|exact zz|fail) only [go_sem, fillA_slice, ha]; with_reducible rfl)))
    refine ⟨by omega, ll ++ [row], v3, by simp [forget], hx3, ho3, by simp [hll], fun r hr => ?_⟩
    by_cases e : r = k
    · subst e
      rw [← hll, getD_append_last, hll]; exact hrow
    · rw [getD_append_lt (by omega)]; exact hrows r (by omega)
  have hjw : j < widN M k := by omega
  have ht : inR M k (lo + (j : Int)) := by unfold inR; rw [hlo, hhi]; omega
  (refine yx ?_; (first | apply aops_all | apply adraw_all); simp (disch := first|exact zz|fail) only [go_sem]; with_reducible rfl)
  refine q8 ?_
  refine q1 ?_
  refine awp_mid [false, true, false, true, true, true, true, true, false, false, false, false, false, false, false, false, false, false, false, false, false, false, false, false, false, false, false, false, false, false, false, false, false, false, false, false, false, false, false, false, false, false, false, false, false, false, false, false, false, false, false, false, false, false, false, false, false, false, false, false, false, false, false, false, false, false, false, false, false, false, false, false, false, false, false, false, false, false, false, false, false, false, false, false, false, false, false, false, false, false, false, false, false, false, false, false, false, false, false, false, false, false, false, false, false, false, false, false, false, false, false, false, false, false, false, false, false, false, false, false, false, false, false, false, false, false, false, false, false, false, false, false, false, false, false, false, false, false, false, false, false, false, false] (fun e J3 => J3 = J2 ∧ e = [junk, .pointer (some ⟨H.length, 0, none⟩), junk, tv, .int .i64 k, rv, .int .i64 (lo + (j : Int)), .int .i64 ((if k = 0 then 1 else 0 : Nat) : Int), junk, junk, junk, junk, junk, junk, junk, junk, junk, junk, junk, junk, junk, junk, junk, junk, junk, junk, junk, junk, junk, junk, junk, junk, junk, junk, junk, junk, junk, junk, junk, junk, junk, junk, junk, junk, junk, junk, junk, junk, junk, junk, junk, junk, junk, junk, junk, junk, junk, junk, junk, junk, junk, junk, junk, junk, junk, junk, junk, junk, junk, junk, junk, junk, junk, junk, junk, junk, junk, junk, junk, junk, junk, junk, junk, junk, junk, junk, junk, junk, junk, junk, junk, junk, junk, junk, junk, junk, junk, junk, junk, junk, junk, junk, junk, junk, junk, junk, junk, junk, junk, junk, junk, junk, junk, junk, junk, junk, junk, junk, junk, junk, junk, junk, junk, junk, junk, junk, junk, junk, junk, junk, junk, junk, junk, junk, junk, junk, junk, junk, junk, junk, junk, junk, junk]) ?_ ?_
  · by_cases hk0 : k = 0
    · (repeat (first | refine yw ?_ | ((first | apply yd | apply ye); simp (disch := first|exact zz|fail) only [go_sem, dec_t (show ((k : Nat) : Int) = 0 by omega)]; with_reducible rfl)))
      refine cond_t rfl ?_
      (refine yg ?_)
      exact ⟨rfl, rfl, by rw [if_pos hk0]; simp [forget]⟩
    · (repeat (first | refine yw ?_ | ((first | apply yd | apply ye); simp (disch := first|exact zz|fail) only [go_sem, dec_f (show ¬ ((k : Nat) : Int) = 0 by omega)]; with_reducible rfl)))
      refine cond_f rfl ?_
      (refine yg ?_)
      exact ⟨rfl, rfl, by rw [if_neg hk0]; simp [forget]⟩
  rintro e J3 ⟨rfl, rfl⟩
  have e21 : lo + (j : Int) + 1 = lo + ((j + 1 : Nat) : Int) := by omega
  obtain ⟨t, htt⟩ : ∃ t, lo + (j : Int) = t := ⟨_, rfl⟩
  rw [htt] at e21
  rw [htt] at ht
  simp only [htt]
  (refine yg ?_)
  refine awp_loop_n [false, true, false, true, true, true, true, true, true, false, false, false, false, false, false, false, false, false, false, false, false, false, false, false, false, false, false, false, false, false, false, false, false, false, false, false, false, false, false, false, false, false, false, false, false, false, false, false, false, false, false, false, false, false, false, false, false, false, false, false, false, false, false, false, false, false, false, false, false, false, false, false, false, false, false, false, false, false, false, false, false, false, false, false, false, false, false, false, false, false, false, false, false, false, false, false, false, false, false, false, false, false, false, false, false, false, false, false, false, false, false, false, false, false, false, false, false, false, false, false, false, false, false, false, false, false, false, false, false, false, false, false, false, false, false, false, false, false, false, false, false, false, false] k (fun i e J4 => ∃ out : Nat, e = [junk, .pointer (some ⟨H.length, 0, none⟩), junk, tv, .int .i64 k, rv, .int .i64 t, .int .i64 (out : Nat), .int .i64 i, junk, junk, junk, junk, junk, junk, junk, junk, junk, junk, junk, junk, junk, junk, junk, junk, junk, junk, junk, junk, junk, junk, junk, junk, junk, junk, junk, junk, junk, junk, junk, junk, junk, junk, junk, junk, junk, junk, junk, junk, junk, junk, junk, junk, junk, junk, junk, junk, junk, junk, junk, junk, junk, junk, junk, junk, junk, junk, junk, junk, junk, junk, junk, junk, junk, junk, junk, junk, junk, junk, junk, junk, junk, junk, junk, junk, junk, junk, junk, junk, junk, junk, junk, junk, junk, junk, junk, junk, junk, junk, junk, junk, junk, junk, junk, junk, junk, junk, junk, junk, junk, junk, junk, junk, junk, junk, junk, junk, junk, junk, junk, junk, junk, junk, junk, junk, junk, junk, junk, junk, junk, junk, junk, junk, junk, junk, junk, junk, junk, junk, junk, junk, junk, junk] ∧ J4 = J3 ∧ out ≤ M.length ∧ KeptR L M k t (fun a s => a < i ∧ inR M a s) out) ?_ ?_
  · exact ⟨_, by simp [forget], rfl, by split <;> omega, KeptR.start hkm ht⟩
  rintro i e J4 hik ⟨out, rfl, rfl, hob, hkp⟩
  (refine yg ?_)
  refine cond_p rfl (fun hlt4 => ?_) (fun hge4 => ?_)
  rotate_left 1
  · obtain rfl : i = k := by omega
    have hfew := hkp.done
    have hpush := hor.push (by rw [hrow.1]; omega) (out : Int)
    (repeat (first | refine yw ?_ | ((first | apply yd | apply ye); simp (disch := first|exact zz|fail) only [go_sem, hpush, e21]; with_reducible rfl)))
    refine ⟨by omega, row ++ [(out : Int)], pushV J4 row.length, by simp [forget], hor.ext x2 _, hor.pushed x2 _, hrow.push hkm (by rw [hlo, htt]; exact hfew)⟩
  have hik' : i < k := by omega
  have him : i < M.length := by omega
  obtain ⟨lo2, hlo2⟩ : ∃ lo, (M.getD i (0, 0, 0)).2.1 = lo := ⟨_, rfl⟩
  obtain ⟨hi2, hhi2⟩ : ∃ hi, (M.getD i (0, 0, 0)).2.2 = hi := ⟨_, rfl⟩
  have b1 := hk.t1 i him
  have b2 := hk.t2 i him
  have b3 := hk.lohi i him
  rw [hlo2] at b1 b3
  rw [hhi2] at b2 b3
  have hwid2 : widN M i = (hi2 - lo2 + 1).toNat := by unfold widN; rw [hlo2, hhi2]
  have hrowi := hrows i hik'
  have hri := hT2.row (k := i) (by omega)
  have hrv := hT2.load (Ext.refl _) (k := i) (by omega)
  have hrix := hT2.idx (H' := J4) (i := (i : Int)) (k := .i64) (by omega) (by omega)
  rw [Int.toNat_natCast] at hrix
  generalize ll.getD i [] = rowi at hrowi hri
  generalize vs.getD i undef = rvi at hri hrv
  (repeat (first | refine yw ?_ | ((first | apply yd | apply ye); simp (disch := first|exact zz|fail) only [go_sem, hl2.len, hl2.idx, hl2.load, load_at k2, evC, hlo2]; with_reducible rfl)))
  refine awp_loop_n [false, true, false, true, true, true, true, true, true, true, false, false, false, false, false, false, false, false, false, false, false, false, false, false, false, false, false, false, false, false, false, false, false, false, false, false, false, false, false, false, false, false, false, false, false, false, false, false, false, false, false, false, false, false, false, false, false, false, false, false, false, false, false, false, false, false, false, false, false, false, false, false, false, false, false, false, false, false, false, false, false, false, false, false, false, false, false, false, false, false, false, false, false, false, false, false, false, false, false, false, false, false, false, false, false, false, false, false, false, false, false, false, false, false, false, false, false, false, false, false, false, false, false, false, false, false, false, false, false, false, false, false, false, false, false, false, false, false, false, false, false, false, false] (widN M i) (fun u e J5 => ∃ out : Nat, e = [junk, .pointer (some ⟨H.length, 0, none⟩), junk, tv, .int .i64 k, rv, .int .i64 t, .int .i64 (out : Nat), .int .i64 i, .int .i64 (lo2 + (u : Int)), junk, junk, junk, junk, junk, junk, junk, junk, junk, junk, junk, junk, junk, junk, junk, junk, junk, junk, junk, junk, junk, junk, junk, junk, junk, junk, junk, junk, junk, junk, junk, junk, junk, junk, junk, junk, junk, junk, junk, junk, junk, junk, junk, junk, junk, junk, junk, junk, junk, junk, junk, junk, junk, junk, junk, junk, junk, junk, junk, junk, junk, junk, junk, junk, junk, junk, junk, junk, junk, junk, junk, junk, junk, junk, junk, junk, junk, junk, junk, junk, junk, junk, junk, junk, junk, junk, junk, junk, junk, junk, junk, junk, junk, junk, junk, junk, junk, junk, junk, junk, junk, junk, junk, junk, junk, junk, junk, junk, junk, junk, junk, junk, junk, junk, junk, junk, junk, junk, junk, junk, junk, junk, junk, junk, junk, junk, junk, junk, junk, junk, junk, junk, junk] ∧ J5 = J4 ∧ out ≤ M.length ∧ KeptR L M k t (fun a s => (a < i ∧ inR M a s) ∨ (a = i ∧ lo2 ≤ s ∧ s < lo2 + (u : Int))) out) ?_ ?_
  · exact ⟨out, by simp [forget], rfl, hob, hkp.congr fun a s hd => by rcases hd with hd | ⟨_, h1, h2⟩; exact hd; omega⟩
  clear hob hkp
  rintro u e J5 hu ⟨out, rfl, rfl, hob, hkp⟩
  (repeat (first | refine yw ?_ | ((first | apply yd | apply ye); simp (disch := first|exact zz|fail) only [go_sem, hl2.len, hl2.idx, hl2.load, load_at k2, evC, hhi2]; with_reducible rfl)))
  refine cond_p rfl (fun hle6 => ?_) (fun hgt6 => ?_)
  rotate_left 1
  · obtain rfl : u = widN M i := by omega
    have e2 : (i : Int) + 1 = ((i + 1 : Nat) : Int) := by omega
    (repeat (first | refine yw ?_ | ((first | apply yd | apply ye); simp (disch := first|exact zz|fail) only [go_sem, e2]; with_reducible rfl)))
    refine ⟨by omega, out, by simp [forget], rfl, hob, hkp.congr fun a s hd => ?_⟩
    by_cases e : a = i
    · subst e
      refine .inr ⟨rfl, ?_⟩
      have := hd.2
      unfold inR at this
      rw [hlo2, hhi2] at this
      omega
    · exact .inl ⟨by omega, hd.2⟩
  have huw : u < widN M i := by omega
  obtain ⟨n, hn1, hn2, hn3⟩ := hrowi.2 u huw
  rw [hlo2] at hn3
  have hs : inR M i (lo2 + (u : Int)) := by unfold inR; rw [hlo2, hhi2]; omega
  have esub : lo2 + (u : Int) - lo2 = (u : Int) := by omega
  have hul : u < rowi.length := by rw [hrowi.1]; exact huw
  have hex := hri.idx (H' := J5) (i := (u : Int)) (k := .i64) (by omega) (by omega)
  rw [Int.toNat_natCast] at hex
  have hel := hri.load (Ext.refl J5) (k := u) hul
  rw [hn1] at hel
  have e2 : lo2 + (u : Int) + 1 = lo2 + ((u + 1 : Nat) : Int) := by omega
  have e3 : (n : Int) + 1 = ((n + 1 : Nat) : Int) := by omega
  have step : ∀ {o : Nat}, KeptR L M k t (fun a b => ((a < i ∧ inR M a b) ∨ (a = i ∧ lo2 ≤ b ∧ b < lo2 + (u : Int))) ∨ (a = i ∧ b = lo2 + (u : Int))) o → KeptR L M k t (fun a s => (a < i ∧ inR M a s) ∨ (a = i ∧ lo2 ≤ s ∧ s < lo2 + ((u + 1 : Nat) : Int))) o := fun h => h.congr fun a s hd => by
    rcases hd with hd | ⟨h1, h2, h3⟩
    · exact .inl (.inl hd)
    · by_cases e : s = lo2 + (u : Int)
      · exact .inr ⟨h1, e⟩
      · exact .inl (.inr ⟨h1, h2, by omega⟩)
  by_cases hn : (n : Int) > 0
  rotate_left 1
  · (repeat (first | refine yw ?_ | ((first | apply yd | apply ye); simp (disch := first|exact zz|fail) only [go_sem, hl2.len, hl2.idx, hl2.load, hrix, hrv, load_at k2, evC, hlo2, esub, hex, hel]; with_reducible rfl)))
    (repeat (first | refine yw ?_ | ((first | apply yd | apply ye); simp (disch := first|exact zz|fail) only [go_sem, dec_f hn]; with_reducible rfl)))
    refine cond_f rfl ?_
    (repeat (first | refine yw ?_ | ((first | apply yd | apply ye); simp (disch := first|exact zz|fail) only [go_sem, e2]; with_reducible rfl)))
    exact ⟨by omega, out, by simp [forget], rfl, hob, step (hkp.same hn3 (.inl (by omega)))⟩
  (repeat (first | refine yw ?_ | ((first | apply yd | apply ye); simp (disch := first|exact zz|fail) only [go_sem, hl2.len, hl2.idx, hl2.load, hrix, hrv, load_at k2, evC, hlo2, esub, hex, hel]; with_reducible rfl)))
  have hpiece := isPiece_c (H := J5) hl2 hk hik' hkm hs ht
  have hle2 := hn3.le him
  by_cases ho : ((out : Nat) : Int) = 0
  · (repeat (first | refine yw ?_ | ((first | apply yd | apply ye); simp (disch := first|exact zz|fail) only [go_sem, dec_t hn, dec_t ho, load_ev k2]; with_reducible rfl)))
    (refine aops_call_to (hpiece) ?_)
    cases hj2 : joinsB L M i k (lo2 + (u : Int)) t with
    | true =>
      have hkn := hkp.new hn3 hkm ht hik' (by omega) (.inl (by omega)) ((joinsB_iff hik').1 hj2)
      have hnm : n + 1 ≤ M.length := by
        rcases hkn.ch with h | ⟨_, h⟩
        · omega
        · have := h.le; omega
      (refine yg ?_)
      refine cond_t rfl ?_
      (repeat (first | refine yw ?_ | ((first | apply yd | apply ye); simp (disch := first|exact zz|fail) only [go_sem, e2, e3]; with_reducible rfl)))
      exact ⟨by omega, n + 1, by simp [forget], rfl, hnm, step hkn⟩
    | false =>
      (refine yg ?_)
      refine cond_f rfl ?_
      (repeat (first | refine yw ?_ | ((first | apply yd | apply ye); simp (disch := first|exact zz|fail) only [go_sem, e2]; with_reducible rfl)))
      exact ⟨by omega, out, by simp [forget], rfl, hob, step (hkp.same hn3 (.inr (.inr fun h => by rw [(joinsB_iff hik').2 h] at hj2; cases hj2)))⟩
  · by_cases hlt2 : ((n + 1 : Nat) : Int) < ((out : Nat) : Int)
    · (repeat (first | refine yw ?_ | ((first | apply yd | apply ye); simp (disch := first|exact zz|fail) only [go_sem, dec_t hn, dec_f ho, e3, dec_t hlt2, load_ev k2]; with_reducible rfl)))
      (refine aops_call_to (hpiece) ?_)
      cases hj2 : joinsB L M i k (lo2 + (u : Int)) t with
      | true =>
        have hkn := hkp.new hn3 hkm ht hik' (by omega) (.inr (by omega)) ((joinsB_iff hik').1 hj2)
        (refine yg ?_)
        refine cond_t rfl ?_
        (repeat (first | refine yw ?_ | ((first | apply yd | apply ye); simp (disch := first|exact zz|fail) only [go_sem, e2, e3]; with_reducible rfl)))
        exact ⟨by omega, n + 1, by simp [forget], rfl, by omega, step hkn⟩
      | false =>
        (refine yg ?_)
        refine cond_f rfl ?_
        (repeat (first | refine yw ?_ | ((first | apply yd | apply ye); simp (disch := first|exact zz|fail) only [go_sem, e2]; with_reducible rfl)))
        exact ⟨by omega, out, by simp [forget], rfl, hob, step (hkp.same hn3 (.inr (.inr fun h => by rw [(joinsB_iff hik').2 h] at hj2; cases hj2)))⟩
    · (repeat (first | refine yw ?_ | ((first | apply yd | apply ye); simp (disch := first|exact zz|fail) only [go_sem, dec_t hn, dec_f ho, e3, dec_f hlt2]; with_reducible rfl)))
      refine cond_f rfl ?_
      (repeat (first | refine yw ?_ | ((first | apply yd | apply ye); simp (disch := first|exact zz|fail) only [go_sem, e2]; with_reducible rfl)))
      exact ⟨by omega, out, by simp [forget], rfl, hob, step (hkp.same hn3 (.inr (.inl ⟨by omega, by omega⟩)))⟩
end
end Go.Lq

namespace Go.Lq
open Go
open Go.Proofs

theorem f_10_0 : decide ((10 : Int) = 0) = false := by decide
theorem f_13_0 : decide ((13 : Int) = 0) = false := by decide
theorem f_8_0 : decide ((8 : Int) = 0) = false := by decide
theorem fn_10 : decide ((10 : Int) ≠ 0) = true := by decide
theorem fn_13 : decide ((13 : Int) ≠ 0) = true := by decide
theorem fn_8 : decide ((8 : Int) ≠ 0) = true := by decide
theorem few_bad {L : Int × Int} {M : List Mark} {l : List (Int × Int)} {e c : Int} (h : FewRes L M l e) (hc : fewErr L M = c) (hn : c ≠ 0) : l = [] ∧ e = c := by
  rcases h with ⟨_, h2, h3⟩ | ⟨h1, _⟩ | ⟨h1, _⟩
  · exact ⟨h3, by rw [h2, hc]⟩
  · rw [hc] at h1; exact absurd h1 hn
  · rw [hc] at h1; exact absurd h1 hn
theorem wide_iff {M : List Mark} : (idxF wideB M 0 M.length).isSome = true ↔ widTo M M.length > 40 := by
  have h1 := widTo_le (M := M) (c := 40) (by omega) (n := M.length)
  have h2 := idxF_any (p := wideB) (M := M) (n := M.length) (i := 0)
  constructor
  · intro h
    refine Decidable.byContradiction fun hn => ?_
    have h3 := h1.1 (by omega)
    have : idxF wideB M 0 M.length = none := h2.2 fun k _ hk => by
      have := h3 k (by omega)
      unfold wideB
      exact decide_eq_false (by omega)
    rw [this] at h; cases h
  · intro h
    cases hi : idxF wideB M 0 M.length with
    | some _ => rfl
    | none =>
      have h3 := h2.1 hi
      have : widTo M M.length ≤ 40 := h1.2 fun i hi => by
        have := of_decide_eq_false (h3 i (Nat.zero_le _) (by omega))
        omega
      omega
theorem few_good {L : Int × Int} {M : List Mark} {l : List (Int × Int)} {e : Int} (he : EvOk L M) (h2 : 2 ≤ M.length) (h : FewRes L M l e) (hz : fewErr L M = 0) :
    (¬ NoClash L M ∧ l = [] ∧ e = 13) ∨ (NoClash L M ∧ e = 0 ∧ ∃ s, CourseOf L M 0 s l ∧ 2 ≤ l.length ∧ BestN L M l.length) := by
  rcases h with ⟨h1, _⟩ | ⟨_, h3, h4, h5⟩ | ⟨_, h3, s, h4, h5⟩
  · exact absurd hz h1
  · refine .inl ⟨fun hN => ?_, h4, h3⟩
    exact h5 _ _ (chain_any he hN (r := M.length - 1) (i := 0) (by omega))
  · have hc := h4.course he
    have hl2 : 2 ≤ l.length := by
      have h6 := hc.one
      have h7 := hc.pos
      refine Decidable.byContradiction fun hn => ?_
      have := h6 (by omega)
      omega
    refine .inr ⟨course_noClash he hc hl2, h3, s, hc, hl2, .inr ⟨hc.pos, ?_⟩, fun t m hm => ?_⟩
    · exact (chains_same (by omega) _).1 ⟨s, h4.chain⟩
    · obtain ⟨s', hs⟩ := (chains_same (by omega) m).2 ⟨t, hm⟩
      exact ⟨hc.pos, h5 s' m hs⟩
def hasTo (M : List Mark) (p : Int) : Nat → Bool
  | 0 => false
  | j + 1 => hasTo M p j || decide ((M.getD j (0, 0, 0)).1 = p)
theorem hasTo_of {M : List Mark} {p : Int} {m : Nat} (h : mP M m = p) : ∀ {n : Nat}, m < n → hasTo M p n = true
  | n + 1, hn => by
    unfold hasTo
    by_cases e : m = n
    · subst e; rw [decide_eq_true h, Bool.or_true]
    · rw [hasTo_of h (show m < n by omega), Bool.true_or]
set_option maxRecDepth 100000 in
set_option maxHeartbeats 8000000 in
theorem law10 {H : AHeap} {avs : List Value} (h : RepAll Try.prog H [26] avs) : ACall Try.prog 10 avs H fun v _ => v = .bool true := by
  obtain ⟨a, rfl, h1⟩ := h.one
  obtain ⟨L, M, s, rfl, hl, hlm⟩ := repEv h1
  have e0 : Value.agg ⟨[.int .i64 L.1, .int .i64 L.2, s]⟩ = evV L s := rfl
  rw [e0]
  (refine a10 ?_; simp only [n10, List.replicate, yq, yr, yt, yu]; first | refine q1 ?_ | refine q2 ?_ | refine q6 ?_ | refine q7 ?_ | refine qh rfl ?_ | skip)
  have g0 : (H ++ [AObj.cells true 0 (evC L s)])[H.length]? = some (.cells true 0 (evC L s)) := at_new
  have xG : Ext H (H ++ [AObj.cells true 0 (evC L s)]) := (Ext.refl H).app _
  (repeat (first | refine yv ?_ | (apply yd; simp (disch := first|exact zz|fail) only [go_sem, box_ev hl.atom]; with_reducible rfl)))
  generalize (H ++ [AObj.cells true 0 (evC L s)] : AHeap) = G at g0 xG
  have k0 := hl.ext xG
  (refine yg ?_)
  (refine aops_call_to (awake_c) ?_)
  (refine yg ?_)
  refine cond_f rfl ?_
  (repeat (first | refine yw ?_ | ((first | apply yd | apply ye); simp (disch := first|exact zz|fail) only [go_sem, load_ev g0]; with_reducible rfl)))
  (refine aops_call_to (fewMarks_c k0) ?_)
  by_cases hf : M.length ≤ 14
  rotate_left 1
  · (repeat (first | refine yw ?_ | ((first | apply yd | apply ye); simp (disch := first|exact zz|fail) only [go_sem, dec_f hf]; with_reducible rfl)))
    refine cond_t rfl ?_
    (refine yg ?_)
    exact fin_1 rfl
  (repeat (first | refine yw ?_ | ((first | apply yd | apply ye); simp (disch := first|exact zz|fail) only [go_sem, dec_t hf]; with_reducible rfl)))
  refine cond_f rfl ?_
  (repeat (first | refine yw ?_ | ((first | apply yd | apply ye); simp (disch := first|exact zz|fail) only [go_sem, load_ev g0]; with_reducible rfl)))
  (refine aops_call_to (rEvErr_c k0 (by omega)) ?_)
  by_cases hz : evErrL L M = 0
  rotate_left 1
  · have hc : fewErr L M = evErrL L M := by
      have ef : fewE L M = evErrL L M := firstErr_e hz _
      unfold fewErr; rw [ef, if_pos hz]
    (repeat (first | refine yw ?_ | ((first | apply yd | apply ye); simp (disch := first|exact zz|fail) only [go_sem, dec_f hz]; with_reducible rfl)))
    refine cond_f rfl ?_
    (repeat (first | refine yw ?_ | ((first | apply yd | apply ye); simp (disch := first|exact zz|fail) only [go_sem, dec_f hz]; with_reducible rfl)))
    refine cond_f rfl ?_
    (repeat (first | refine yw ?_ | ((first | apply yd | apply ye); simp (disch := first|exact zz|fail) only [go_sem, dec_f hz]; with_reducible rfl)))
    refine cond_f rfl ?_
    (repeat (first | refine yw ?_ | ((first | apply yd | apply ye); simp (disch := first|exact zz|fail) only [go_sem, dec_f hz]; with_reducible rfl)))
    refine cond_f rfl ?_
    (repeat (first | refine yw ?_ | ((first | apply yd | apply ye); simp (disch := first|exact zz|fail) only [go_sem, dec_f hz, load_ev g0]; with_reducible rfl)))
    (refine aops_call_to (copyEv_c k0 (by omega)) ?_)
    have hC : Tris (G ++ [.cells true 3 (flat3 M)]) M (.slice (some ⟨G.length, 0, none⟩) M.length M.length) := Tris.last M.length
    have x1 : Ext G (G ++ [AObj.cells true 3 (flat3 M)]) := (Ext.refl G).app _
    (refine yg ?_)
    generalize (G ++ [AObj.cells true 3 (flat3 M)] : AHeap) = G1 at hC x1
    refine aops_call ((fewest_c hC (by omega)).mono fun w G2 ⟨x2, r, l, e, hw, hr, hres⟩ => ?_)
    subst hw
    have ra : isAtom r = true := Sl.atom hr
    have hst : storeR 1 (.pointer (some ⟨G2.length, 0, none⟩)) (.agg ⟨[r]⟩) (G2 ++ [.cells true 0 [.slice none 0 0]]) = some (undef, G2 ++ [.cells true 0 [r]]) := store_newA ra
    have c3 : (G2 ++ [AObj.cells true 0 [r]])[G2.length]? = some (.cells true 0 [r]) := at_new
    have x3 : Ext G2 (G2 ++ [AObj.cells true 0 [r]]) := (Ext.refl G2).app _
    (repeat (first | refine yw ?_ | ((first | apply yd | apply ye); simp (disch := first|exact zz|fail) only [go_sem, hst, dec_t (show evErrL L M ≠ 0 from hz)]; with_reducible rfl)))
    generalize (G2 ++ [AObj.cells true 0 [r]] : AHeap) = G3 at c3 x3
    have hr3 := hr.ext x3
    obtain ⟨hl0, he0⟩ := few_bad hres hc hz
    rw [hl0] at hr3
    rw [he0]
    (repeat (first | refine yw ?_ | ((first | apply yd | apply ye); simp (disch := first|exact zz|fail) only [go_sem, dec_t (show evErrL L M ≠ 0 from hz)]; with_reducible rfl)))
    refine cond_t rfl ?_
    (repeat (first | refine yw ?_ | ((first | apply yd | apply ye); simp (disch := first|exact zz|fail) only [go_sem, hr3.len, hr3.idx, hr3.load, load1 c3, decide_eq_self, List.length_nil]; with_reducible rfl)))
    exact fin_1 rfl
  rw [hz]
  have hk := evErr_ok hz
  have hlen := hk.len
  by_cases h2 : (M.length : Int) < 2
  · have hc : fewErr L M = 10 := by
      have ef : fewE L M = 10 := by unfold fewE; rw [hz, firstErr_z, if_neg (by omega), firstErr_e (by decide)]
      unfold fewErr; rw [ef, if_pos (by decide)]
    (repeat (first | refine yw ?_ | ((first | apply yd | apply ye); simp (disch := first|exact zz|fail) only [go_sem, k0.len, k0.idx, k0.load, decide_eq_self, load_at g0, evC, dec_t h2]; with_reducible rfl)))
    refine cond_t rfl ?_
    (repeat (first | refine yw ?_ | ((first | apply yd | apply ye); simp (disch := first|exact zz|fail) only [go_sem, f_10_0]; with_reducible rfl)))
    refine cond_f rfl ?_
    (repeat (first | refine yw ?_ | ((first | apply yd | apply ye); simp (disch := first|exact zz|fail) only [go_sem, f_10_0]; with_reducible rfl)))
    refine cond_f rfl ?_
    (repeat (first | refine yw ?_ | ((first | apply yd | apply ye); simp (disch := first|exact zz|fail) only [go_sem, f_10_0]; with_reducible rfl)))
    refine cond_f rfl ?_
    (repeat (first | refine yw ?_ | ((first | apply yd | apply ye); simp (disch := first|exact zz|fail) only [go_sem, f_10_0, load_ev g0]; with_reducible rfl)))
    (refine aops_call_to (copyEv_c k0 (by omega)) ?_)
    have hC : Tris (G ++ [.cells true 3 (flat3 M)]) M (.slice (some ⟨G.length, 0, none⟩) M.length M.length) := Tris.last M.length
    have x1 : Ext G (G ++ [AObj.cells true 3 (flat3 M)]) := (Ext.refl G).app _
    (refine yg ?_)
    generalize (G ++ [AObj.cells true 3 (flat3 M)] : AHeap) = G1 at hC x1
    refine aops_call ((fewest_c hC (by omega)).mono fun w G2 ⟨x2, r, l, e, hw, hr, hres⟩ => ?_)
    subst hw
    have ra : isAtom r = true := Sl.atom hr
    have hst : storeR 1 (.pointer (some ⟨G2.length, 0, none⟩)) (.agg ⟨[r]⟩) (G2 ++ [.cells true 0 [.slice none 0 0]]) = some (undef, G2 ++ [.cells true 0 [r]]) := store_newA ra
    have c3 : (G2 ++ [AObj.cells true 0 [r]])[G2.length]? = some (.cells true 0 [r]) := at_new
    have x3 : Ext G2 (G2 ++ [AObj.cells true 0 [r]]) := (Ext.refl G2).app _
    (repeat (first | refine yw ?_ | ((first | apply yd | apply ye); simp (disch := first|exact zz|fail) only [go_sem, hst]; with_reducible rfl)))
    generalize (G2 ++ [AObj.cells true 0 [r]] : AHeap) = G3 at c3 x3
    have hr3 := hr.ext x3
    obtain ⟨rfl, rfl⟩ := few_bad hres hc (by decide)
    (repeat (first | refine yw ?_ | ((first | apply yd | apply ye); simp (disch := first|exact zz|fail) only [go_sem, fn_10]; with_reducible rfl)))
    refine cond_t rfl ?_
    (repeat (first | refine yw ?_ | ((first | apply yd | apply ye); simp (disch := first|exact zz|fail) only [go_sem, hr3.len, hr3.idx, hr3.load, load1 c3, decide_eq_self, List.length_nil]; with_reducible rfl)))
    exact fin_1 rfl
  have ef : fewE L M = 0 := by unfold fewE; rw [hz, firstErr_z, if_pos (by omega)]; rfl
  (repeat (first | refine yw ?_ | ((first | apply yd | apply ye); simp (disch := first|exact zz|fail) only [go_sem, k0.len, k0.idx, k0.load, decide_eq_self, load_at g0, evC, dec_f h2]; with_reducible rfl)))
  refine cond_f rfl ?_
  (repeat (first | refine yw ?_ | ((first | apply yd | apply ye); simp (disch := first|exact zz|fail) only [go_sem, decide_eq_self, load_ev g0]; with_reducible rfl)))
  (refine aops_call_to (widest_c k0 hk) ?_)
  by_cases h40 : widTo M M.length > 40
  · have hc : fewErr L M = 8 := by unfold fewErr; rw [if_neg (fun h => h ef), if_pos (wide_iff.2 h40)]
    (repeat (first | refine yw ?_ | ((first | apply yd | apply ye); simp (disch := first|exact zz|fail) only [go_sem, dec_t h40]; with_reducible rfl)))
    refine cond_t rfl ?_
    (repeat (first | refine yw ?_ | ((first | apply yd | apply ye); simp (disch := first|exact zz|fail) only [go_sem, f_8_0]; with_reducible rfl)))
    refine cond_f rfl ?_
    (repeat (first | refine yw ?_ | ((first | apply yd | apply ye); simp (disch := first|exact zz|fail) only [go_sem, f_8_0]; with_reducible rfl)))
    refine cond_f rfl ?_
    (repeat (first | refine yw ?_ | ((first | apply yd | apply ye); simp (disch := first|exact zz|fail) only [go_sem, f_8_0, load_ev g0]; with_reducible rfl)))
    (refine aops_call_to (copyEv_c k0 (by omega)) ?_)
    have hC : Tris (G ++ [.cells true 3 (flat3 M)]) M (.slice (some ⟨G.length, 0, none⟩) M.length M.length) := Tris.last M.length
    have x1 : Ext G (G ++ [AObj.cells true 3 (flat3 M)]) := (Ext.refl G).app _
    (refine yg ?_)
    generalize (G ++ [AObj.cells true 3 (flat3 M)] : AHeap) = G1 at hC x1
    refine aops_call ((fewest_c hC (by omega)).mono fun w G2 ⟨x2, r, l, e, hw, hr, hres⟩ => ?_)
    subst hw
    have ra : isAtom r = true := Sl.atom hr
    have hst : storeR 1 (.pointer (some ⟨G2.length, 0, none⟩)) (.agg ⟨[r]⟩) (G2 ++ [.cells true 0 [.slice none 0 0]]) = some (undef, G2 ++ [.cells true 0 [r]]) := store_newA ra
    have c3 : (G2 ++ [AObj.cells true 0 [r]])[G2.length]? = some (.cells true 0 [r]) := at_new
    have x3 : Ext G2 (G2 ++ [AObj.cells true 0 [r]]) := (Ext.refl G2).app _
    (repeat (first | refine yw ?_ | ((first | apply yd | apply ye); simp (disch := first|exact zz|fail) only [go_sem, hst]; with_reducible rfl)))
    generalize (G2 ++ [AObj.cells true 0 [r]] : AHeap) = G3 at c3 x3
    have hr3 := hr.ext x3
    obtain ⟨rfl, rfl⟩ := few_bad hres hc (by decide)
    (repeat (first | refine yw ?_ | ((first | apply yd | apply ye); simp (disch := first|exact zz|fail) only [go_sem, fn_8]; with_reducible rfl)))
    refine cond_t rfl ?_
    (repeat (first | refine yw ?_ | ((first | apply yd | apply ye); simp (disch := first|exact zz|fail) only [go_sem, hr3.len, hr3.idx, hr3.load, load1 c3, decide_eq_self, List.length_nil]; with_reducible rfl)))
    exact fin_1 rfl
  have hfz : fewErr L M = 0 := by unfold fewErr; rw [if_neg (fun h => h ef), if_neg (fun h => h40 (wide_iff.1 h))]
  (repeat (first | refine yw ?_ | ((first | apply yd | apply ye); simp (disch := first|exact zz|fail) only [go_sem, dec_f h40]; with_reducible rfl)))
  refine cond_f rfl ?_
  (repeat (first | refine yw ?_ | ((first | apply yd | apply ye); simp (disch := first|exact zz|fail) only [go_sem, decide_eq_self, load_ev g0]; with_reducible rfl)))
  (refine aops_call_to (rIsPossible_c k0 hk) ?_)
  by_cases hcl : clashL L M = none
  rotate_left 1
  · (repeat (first | refine yw ?_ | ((first | apply yd | apply ye); simp (disch := first|exact zz|fail) only [go_sem, dec_f hcl]; with_reducible rfl)))
    refine cond_t rfl ?_
    (repeat (first | refine yw ?_ | ((first | apply yd | apply ye); simp (disch := first|exact zz|fail) only [go_sem, f_13_0]; with_reducible rfl)))
    refine cond_f rfl ?_
    (repeat (first | refine yw ?_ | ((first | apply yd | apply ye); simp (disch := first|exact zz|fail) only [go_sem, f_13_0, load_ev g0]; with_reducible rfl)))
    (refine aops_call_to (copyEv_c k0 (by omega)) ?_)
    have hC : Tris (G ++ [.cells true 3 (flat3 M)]) M (.slice (some ⟨G.length, 0, none⟩) M.length M.length) := Tris.last M.length
    have x1 : Ext G (G ++ [AObj.cells true 3 (flat3 M)]) := (Ext.refl G).app _
    (refine yg ?_)
    generalize (G ++ [AObj.cells true 3 (flat3 M)] : AHeap) = G1 at hC x1
    refine aops_call ((fewest_c hC (by omega)).mono fun w G2 ⟨x2, r, l, e, hw, hr, hres⟩ => ?_)
    subst hw
    have ra : isAtom r = true := Sl.atom hr
    have hst : storeR 1 (.pointer (some ⟨G2.length, 0, none⟩)) (.agg ⟨[r]⟩) (G2 ++ [.cells true 0 [.slice none 0 0]]) = some (undef, G2 ++ [.cells true 0 [r]]) := store_newA ra
    have c3 : (G2 ++ [AObj.cells true 0 [r]])[G2.length]? = some (.cells true 0 [r]) := at_new
    have x3 : Ext G2 (G2 ++ [AObj.cells true 0 [r]]) := (Ext.refl G2).app _
    (repeat (first | refine yw ?_ | ((first | apply yd | apply ye); simp (disch := first|exact zz|fail) only [go_sem, hst]; with_reducible rfl)))
    generalize (G2 ++ [AObj.cells true 0 [r]] : AHeap) = G3 at c3 x3
    have hr3 := hr.ext x3
    obtain ⟨hl0, he0⟩ : l = [] ∧ e = 13 := by
      rcases few_good hk (by omega) hres hfz with ⟨_, h3, h4⟩ | ⟨hN, _⟩
      · exact ⟨h3, h4⟩
      · exact absurd (clashL_none.2 hN) hcl
    rw [hl0] at hr3
    rw [he0]
    (repeat (first | refine yw ?_ | ((first | apply yd | apply ye); simp (disch := first|exact zz|fail) only [go_sem, fn_13]; with_reducible rfl)))
    refine cond_t rfl ?_
    (repeat (first | refine yw ?_ | ((first | apply yd | apply ye); simp (disch := first|exact zz|fail) only [go_sem, hr3.len, hr3.idx, hr3.load, load1 c3, decide_eq_self, List.length_nil]; with_reducible rfl)))
    exact fin_1 rfl
  by_cases h6 : (M.length : Int) > 6
  · (repeat (first | refine yw ?_ | ((first | apply yd | apply ye); simp (disch := first|exact zz|fail) only [go_sem, dec_t hcl]; with_reducible rfl)))
    refine cond_f rfl ?_
    (repeat (first | refine yw ?_ | ((first | apply yd | apply ye); simp (disch := first|exact zz|fail) only [go_sem, k0.len, k0.idx, k0.load, decide_eq_self, load_at g0, evC, dec_t h6]; with_reducible rfl)))
    refine cond_t rfl ?_
    (refine yg ?_)
    exact fin_1 rfl
  (repeat (first | refine yw ?_ | ((first | apply yd | apply ye); simp (disch := first|exact zz|fail) only [go_sem, dec_t hcl]; with_reducible rfl)))
  refine cond_f rfl ?_
  (repeat (first | refine yw ?_ | ((first | apply yd | apply ye); simp (disch := first|exact zz|fail) only [go_sem, k0.len, k0.idx, k0.load, decide_eq_self, load_at g0, load_ev g0, evC, dec_f h6]; with_reducible rfl)))
  (refine aops_call_to (widest_c k0 hk) ?_)
  by_cases h12 : widTo M M.length > 12
  · (repeat (first | refine yw ?_ | ((first | apply yd | apply ye); simp (disch := first|exact zz|fail) only [go_sem, dec_t h12]; with_reducible rfl)))
    refine cond_t rfl ?_
    (refine yg ?_)
    exact fin_1 rfl
  (repeat (first | refine yw ?_ | ((first | apply yd | apply ye); simp (disch := first|exact zz|fail) only [go_sem, dec_f h12]; with_reducible rfl)))
  refine cond_f rfl ?_
  (repeat (first | refine yw ?_ | ((first | apply yd | apply ye); simp (disch := first|exact zz|fail) only [go_sem, load_ev g0]; with_reducible rfl)))
  (refine aops_call_to (copyEv_c k0 (by omega)) ?_)
  have hC : Tris (G ++ [.cells true 3 (flat3 M)]) M (.slice (some ⟨G.length, 0, none⟩) M.length M.length) := Tris.last M.length
  have x1 : Ext G (G ++ [AObj.cells true 3 (flat3 M)]) := (Ext.refl G).app _
  (refine yg ?_)
  generalize (G ++ [AObj.cells true 3 (flat3 M)] : AHeap) = G1 at hC x1
  refine aops_call ((fewest_c hC (by omega)).mono fun w G2 ⟨x2, r, l, e, hw, hr, hres⟩ => ?_)
  subst hw
  have ra : isAtom r = true := Sl.atom hr
  have hst : storeR 1 (.pointer (some ⟨G2.length, 0, none⟩)) (.agg ⟨[r]⟩) (G2 ++ [.cells true 0 [.slice none 0 0]]) = some (undef, G2 ++ [.cells true 0 [r]]) := store_newA ra
  have c3 : (G2 ++ [AObj.cells true 0 [r]])[G2.length]? = some (.cells true 0 [r]) := at_new
  have x3 : Ext G2 (G2 ++ [AObj.cells true 0 [r]]) := (Ext.refl G2).app _
  (repeat (first | refine yw ?_ | ((first | apply yd | apply ye); simp (disch := first|exact zz|fail) only [go_sem, hst]; with_reducible rfl)))
  generalize (G2 ++ [AObj.cells true 0 [r]] : AHeap) = G3 at c3 x3
  have hr3 := hr.ext x3
  obtain ⟨hN, rfl, s0, hco, hl2, hbest⟩ : NoClash L M ∧ e = 0 ∧ ∃ s, CourseOf L M 0 s l ∧ 2 ≤ l.length ∧ BestN L M l.length := by
    rcases few_good hk (by omega) hres hfz with ⟨h3, _⟩ | h3
    · exact absurd (clashL_none.1 hcl) h3
    · exact h3
  have hok := hco.mapOk hk hl2
  have hfew := hco.few
  have hhead := hco.head
  have hend := hco.endAt
  have x13 := x1.trans (x2.trans x3)
  have g3 := x13.cell g0
  have k3 := k0.ext x13
  have hww : ∀ i, i < M.length → widN M i ≤ 1000 := fun i hi => by
    have := (widTo_le (M := M) (c := 12) (by omega) (n := M.length)).1 (by omega) i hi
    unfold widN
    omega
  (repeat (first | refine yw ?_ | ((first | apply yd | apply ye); simp (disch := first|exact zz|fail) only [go_sem, decide_ne_self]; with_reducible rfl)))
  refine cond_f rfl ?_
  (repeat (first | refine yw ?_ | ((first | apply yd | apply ye); simp (disch := first|exact zz|fail) only [go_sem, decide_ne_self, load_ev g3, n1_at c3]; with_reducible rfl)))
  (refine adraw_call (N := []) (firstD (sound_c k3 hz (by omega) hr3 hok (by omega) (course_acc hk hco hl2) (by rw [hhead]) hend)) ?_; rw [List.append_nil])
  (repeat (first | refine yw ?_ | ((first | apply yd | apply ye); simp (disch := first|exact zz|fail) only [go_sem, hr3.len, hr3.idx, hr3.load, load1 c3, load_ev g3]; with_reducible rfl)))
  (refine adraw_call (N := []) (firstD (rFewest_c k3 hk (by omega) hww hbest)) ?_; rw [List.append_nil])
  (repeat (first | refine yw ?_ | ((first | apply yd | apply ye); simp (disch := first|exact zz|fail) only [go_sem, decide_ne_self]; with_reducible rfl)))
  refine cond_f rfl ?_
  (refine yg ?_)
  have hl12 : l.length ≤ M.length := by omega
  refine awp_loop_n [false, true, false, false, true, false, true, false, false, false, false, false, false, false, false, false, false, false, false, false, false, false, false, false, false, false, false, false, false, false, false, false, false, false, false, false, false, false, false, false, false, false, false, false, false, false, false, false, false, false, false, false, false, false, false, false, false, false, false, false, false, false, false, false, false, false, false, false, false, false, false, false, false, false, false, false, false, false, false, false, false, false, false, false, false, false, false, false, false, false, false, false, false, false, false, false, false, false, false, false, false, false, false, false, false, false, false, false, false, false, false, false, false, false, false, false, false, false, false, false, false, false, false] l.length (fun i e J => e = [junk, .pointer (some ⟨H.length, 0, none⟩), junk, junk, .pointer (some ⟨G2.length, 0, none⟩), junk, .int .i64 i, junk, junk, junk, junk, junk, junk, junk, junk, junk, junk, junk, junk, junk, junk, junk, junk, junk, junk, junk, junk, junk, junk, junk, junk, junk, junk, junk, junk, junk, junk, junk, junk, junk, junk, junk, junk, junk, junk, junk, junk, junk, junk, junk, junk, junk, junk, junk, junk, junk, junk, junk, junk, junk, junk, junk, junk, junk, junk, junk, junk, junk, junk, junk, junk, junk, junk, junk, junk, junk, junk, junk, junk, junk, junk, junk, junk, junk, junk, junk, junk, junk, junk, junk, junk, junk, junk, junk, junk, junk, junk, junk, junk, junk, junk, junk, junk, junk, junk, junk, junk, junk, junk, junk, junk, junk, junk, junk, junk, junk, junk, junk, junk, junk, junk, junk, junk] ∧ J = G3) ?_ ?_
  · exact ⟨by simp [forget], rfl⟩
  rintro i e J hi ⟨rfl, rfl⟩
  (repeat (first | refine yw ?_ | ((first | apply yd | apply ye); simp (disch := first|exact zz|fail) only [go_sem, hr3.len, hr3.idx, hr3.load, load1 c3]; with_reducible rfl)))
  refine cond_p rfl (fun hlt => ?_) (fun hge => ?_)
  rotate_left 1
  · (repeat (first | refine yw ?_ | ((first | apply yd | apply ye); simp (disch := first|exact zz|fail) only [go_sem, hr3.len, hr3.idx, hr3.load, k3.len, k3.idx, k3.load, load1 c3, load_at g3, evC, dec_t (show ((l.length : Nat) : Int) ≤ ((M.length : Nat) : Int) by omega)]; with_reducible rfl)))
    exact fin_1 rfl
  have hi' : i < l.length := by omega
  obtain ⟨m, _, hm, hmp, _⟩ := hco.nodes i hi'
  obtain ⟨p, hp⟩ : ∃ p, (l.getD i (0, 0)).1 = p := ⟨_, rfl⟩
  rw [hp] at hmp
  have hhas := hasTo_of hmp.symm hm
  (refine yg ?_)
  refine awp_loop_n [false, true, false, false, true, false, true, true, true, false, false, false, false, false, false, false, false, false, false, false, false, false, false, false, false, false, false, false, false, false, false, false, false, false, false, false, false, false, false, false, false, false, false, false, false, false, false, false, false, false, false, false, false, false, false, false, false, false, false, false, false, false, false, false, false, false, false, false, false, false, false, false, false, false, false, false, false, false, false, false, false, false, false, false, false, false, false, false, false, false, false, false, false, false, false, false, false, false, false, false, false, false, false, false, false, false, false, false, false, false, false, false, false, false, false, false, false, false, false, false, false, false, false] M.length (fun j e J2 => e = [junk, .pointer (some ⟨H.length, 0, none⟩), junk, junk, .pointer (some ⟨G2.length, 0, none⟩), junk, .int .i64 i, .bool (hasTo M p j), .int .i64 j, junk, junk, junk, junk, junk, junk, junk, junk, junk, junk, junk, junk, junk, junk, junk, junk, junk, junk, junk, junk, junk, junk, junk, junk, junk, junk, junk, junk, junk, junk, junk, junk, junk, junk, junk, junk, junk, junk, junk, junk, junk, junk, junk, junk, junk, junk, junk, junk, junk, junk, junk, junk, junk, junk, junk, junk, junk, junk, junk, junk, junk, junk, junk, junk, junk, junk, junk, junk, junk, junk, junk, junk, junk, junk, junk, junk, junk, junk, junk, junk, junk, junk, junk, junk, junk, junk, junk, junk, junk, junk, junk, junk, junk, junk, junk, junk, junk, junk, junk, junk, junk, junk, junk, junk, junk, junk, junk, junk, junk, junk, junk, junk, junk, junk] ∧ J2 = J) ?_ ?_
  · exact ⟨by simp [forget, hasTo], rfl⟩
  rintro j e J2 hj ⟨rfl, rfl⟩
  (repeat (first | refine yw ?_ | ((first | apply yd | apply ye); simp (disch := first|exact zz|fail) only [go_sem, k3.len, k3.idx, k3.load, load_at g3, evC]; with_reducible rfl)))
  refine cond_p rfl (fun hlt2 => ?_) (fun hge2 => ?_)
  rotate_left 1
  · obtain rfl : j = M.length := by omega
    rw [hhas]
    (refine yg ?_)
    refine cond_f rfl ?_
    (refine yg ?_)
    exact ⟨by omega, by simp [forget], rfl⟩
  have hj' : j < M.length := by omega
  have eh : hasTo M p (j + 1) = (hasTo M p j || decide ((M.getD j (0, 0, 0)).1 = p)) := rfl
  have f0 := (k3.load (Ext.refl J2) (i := j) hj').2.2.1
  have d0 := (k3.load (Ext.refl J2) (i := j) hj').2.2.2.2.2.2.2.1
  have ix0 := k3.idx (H' := J2) (i := (j : Int)) (k := .i64) (by omega) (by omega)
  rw [Int.toNat_natCast] at ix0
  cases hb : hasTo M p j with
  | true =>
    rw [hb, Bool.true_or] at eh
    (refine yg ?_)
    exact ⟨hj', by rw [eh]; simp [forget], rfl⟩
  | false =>
    rw [hb, Bool.false_or] at eh
    (repeat (first | refine yw ?_ | ((first | apply yd | apply ye); simp (disch := first|exact zz|fail) only [go_sem, hr3.len, hr3.idx, hr3.load, load_at g3, evC, ix0, f0, d0, load1 c3, hp]; with_reducible rfl)))
    exact ⟨hj', by rw [eh]; simp [forget], rfl⟩
end Go.Lq

namespace Go.Lq
open Go Go.ChangeShapes Go.WideShapes Go.ChangeAt Go.RowKit
open Go.Proofs

set_option maxRecDepth 100000 in
theorem lifted10 (os : Os) (started : os.Started) (X : Type) (enc : TypeId × Value → X) :
    ReturnsInHanded {} Try.checked os 10 .any (Yteimgikhanhgiaa.Rows.speedFewestSpec.pre6 enc Try.prog Try.f10 [] false) (Yteimgikhanhgiaa.Rows.speedFewestSpec.post enc Try.prog Try.f10 false true false false) := by
  refine returnsInHanded_of_plain_shaped (C := Try.checked) own_knob started (by kernel_rfl) Try.func10
    (ChangeSpec.witness6 (enc := enc) (C := Try.checked) false ⟨#[], #[.agg #[.int .i64 0, .int .i64 0, .slice none 0 0]], []⟩ 12 (by kernel_rfl) (by kernel_rfl) (by kernel_rfl) (by kernel_rfl)) ?_
  intro W base args ds gs before hsh hval hW
  have hWw := hW
  obtain ⟨p, q, hA, _⟩ := hW
  refine (calls_of_law (d := 20) (of_shaped hsh) globs glob_at hA (fun j t v h1 h2 => hval j t v (by simpa using h1) (by simpa using h2)) (by kernel_rfl) fun H avs hx h => ?_).mono fun e W' ⟨he, hB⟩ => ?_
  · exact law10 (by rw [show Try.f10.params = #[26] from Try.params10] at h; exact h)
  · subst he
    exact ⟨_, rfl, law_post (bt := 4) laid_out rfl Try.underlying4 (by kernel_rfl) (by kernel_rfl) hWw (fun ds hd => by
      rw [show Try.f10.params = #[26] from Try.params10] at hd
      match ds, hd with
      | [a], _ => rfl) hB⟩
theorem unf10 : Try.prog.unfollowed 10 = true := by kernel_rfl
theorem rec10 : Try.prog.recurses 10 = true := by kernel_rfl
theorem named10 : Try.prog.varsNamed 10 = Yteimgikhanhgiaa.Rows.speedFewestRow.named := by kernel_rfl
theorem facts10 : joinedFacts Try.prog 10 Try.f10 Yteimgikhanhgiaa.Rows.speedFewestSpec Yteimgikhanhgiaa.Rows.speedFewestRow = true := by
  unfold joinedFacts
  rw [may_enter, stops_heard, maps_rowed, laid_out, lifts_final, make_is, unf10, rec10, named10]
  kernel_rfl
theorem holds10 : Yteimgikhanhgiaa.Rows.SpeedFewestSaid :=
  OpenClaim.holds_of_wide 10 Try.f10 rfl rfl rfl rfl rfl rfl rfl ⟨rfl, rfl, rfl, rfl, rfl⟩ rfl rfl rfl rfl rfl (by kernel_rfl) Try.func10 facts10
    (of_decide_eq_true (by kernel_rfl)) (by unfold Func.isWrapper; first | (rw [if_pos (by decide +kernel)]; kernel_rfl) | (rw [if_neg (by decide +kernel)]; exact ⟨rfl, rfl⟩))
    (fun os started H enc _ => lifted10 os started H enc)
end Go.Lq
namespace Go.Proofs.Yteimgikhanhgiaa
open Go Go.Lq
theorem speedFewest_proved : Rows.SpeedFewestSaid := holds10
end Go.Proofs.Yteimgikhanhgiaa
