/- Towards GrooveEnclosed of seat YtnciaodebdmfhaaDoor: it returns true for every input. Made out of the proof's own texts, merged. -/
import Derived.Test.YtnciaodebdmfhaaDoorB2
set_option linter.unusedSimpArgs false
namespace Go.Lq
open Go

theorem getD_set_ne {α : Type} {l : List α} {d x : α} {i j : Nat} (h : i ≠ j) : (l.set i x).getD j d = l.getD j d := by
  rw [List.getD_eq_getElem?_getD, List.getElem?_set_ne h, List.getD_eq_getElem?_getD]
theorem getD_set_eq {α : Type} {l : List α} {d x : α} {i : Nat} (h : i < l.length) : (l.set i x).getD i d = x := by
  rw [getD_set h, if_pos rfl]
/-- The object k holds rows, at places of their own behind it. -/
structure OwnR (k : Nat) (H : AHeap) (ll : List (List Int)) (vs : List Value) : Prop where
  own : H[k]? = some (.cells true 1 vs)
  len : vs.length = ll.length
  row : ∀ i, i < ll.length → OwnI [] H (ll.getD i []) (vs.getD i undef)
  far : ∀ i, i < ll.length → 0 < (ll.getD i []).length → k < idOf (vs.getD i undef)
  apart : ∀ i j, i ≠ j → i < ll.length → j < ll.length → 0 < (ll.getD i []).length → 0 < (ll.getD j []).length → idOf (vs.getD i undef) ≠ idOf (vs.getD j undef)

section
variable {k : Nat} {H G : AHeap} {ll : List (List Int)} {vs : List Value}

/-- An object that is none of the rows, nor that of the rows. -/
def Aside (k : Nat) (ll : List (List Int)) (vs : List Value) (j : Nat) : Prop := j ≠ k ∧ ∀ i, i < ll.length → 0 < (ll.getD i []).length → idOf (vs.getD i undef) ≠ j

theorem OwnI.same {H0 H H' : AHeap} {l : List Int} {v : Value} (h : OwnI H0 H l v) (hs : 0 < l.length → H'[idOf v]? = H[idOf v]?) : OwnI H0 H' l v := by
  refine ⟨h.1, h.2.imp_right fun ⟨id, e, h1, h2, hc⟩ => ⟨id, e, h1, h2, ?_⟩⟩
  subst e
  have := hs h2
  simp only [idOf] at this
  rw [this]; exact hc
theorem OwnR.lt (h : OwnR k H ll vs) : k < H.length := (List.getElem?_eq_some_iff.1 h.own).1
theorem OwnR.idlt (h : OwnR k H ll vs) {i : Nat} (hi : i < ll.length) (hl : 0 < (ll.getD i []).length) : idOf (vs.getD i undef) < H.length := ((h.row i hi).id_lt hl).2
theorem OwnR.app (h : OwnR k H ll vs) (N : AHeap) : OwnR k (H ++ N) ll vs := ⟨at_app h.own, h.len, fun i hi => (h.row i hi).app N, h.far, h.apart⟩
theorem OwnR.set (h : OwnR k H ll vs) {j : Nat} (hj : Aside k ll vs j) (c : AObj) : OwnR k (H.set j c) ll vs :=
  ⟨by rw [List.getElem?_set_ne hj.1]; exact h.own, h.len, fun i hi => (h.row i hi).same fun hl => by rw [List.getElem?_set_ne (Ne.symm (hj.2 i hi hl))], h.far, h.apart⟩
/-- The slice of the rows. -/
theorem OwnR.sl (h : OwnR k H ll vs) {n c : Nat} (hn : n = ll.length) : Sl H 1 n vs (.slice (some ⟨k, 0, none⟩) n c) := Sl.of h.own (by rw [h.len, hn, Nat.mul_one])
theorem store_cell {k e : Nat} {H : AHeap} {vs : List Value} {v : Value} {i n c : Nat} (h : H[k]? = some (.cells true e vs)) (hi : i < vs.length) (ha : isAtom v = true) (hc : v.cells = ⟨[v]⟩) :
    storeR 1 (addrOf (.slice (some ⟨k, 0, none⟩) n c) i) v H = some (undef, H.set k (.cells true e (vs.set i v))) := by
  have e3 : ([v] : List Value).all isAtom = true := by simp [ha]
  have e4 : (v.cells).toList = [v] := by rw [hc]
  have e5 : (v.cells).size = 1 := by rw [hc]; rfl
  simp only [addrOf, Nat.zero_add, storeR, e5, if_true, storeAt, h, e4, e3, and_true, List.length_cons, List.length_nil]
  rw [if_pos (by omega), setCells_one _ _ _ hi]
  rfl

/-- A number appended to a row. -/
theorem OwnR.push (h : OwnR k H ll vs) {i : Nat} (hi : i < ll.length) (hb : (ll.getD i []).length < 1000000000) (x : Int) :
    ∃ v2 H2, appendA 1 8 (H ++ [.cells true 1 [.int .i64 x]]) (vs.getD i undef) (.slice (some ⟨H.length, 0, none⟩) 1 1) = some (v2, H2) ∧
      (∀ n c, storeR 1 (addrOf (.slice (some ⟨k, 0, none⟩) n c) i) v2 H2 = some (undef, H2.set k (.cells true 1 (vs.set i v2)))) ∧
      OwnR k (H2.set k (.cells true 1 (vs.set i v2))) (ll.set i (ll.getD i [] ++ [x])) (vs.set i v2) ∧ H.length ≤ idOf v2 ∧
      ∀ j c, Aside k ll vs j → H[j]? = some c → (H2.set k (.cells true 1 (vs.set i v2)))[j]? = some c := by
  have hrow := h.row i hi
  have hvi : i < vs.length := by rw [h.len]; exact hi
  have hne : ∀ j, (0 < (ll.getD i []).length → idOf (vs.getD i undef) ≠ j) → vs.getD i undef = .slice none 0 0 ∨ idOf (vs.getD i undef) ≠ j := fun j hj => hrow.nil_or (by
    by_cases h0 : (ll.getD i []).length = 0
    · exact .inl h0
    · exact .inr (hj (by omega)))
  have hself : (pushH H (vs.getD i undef) (ll.getD i []) x)[k]? = some (.cells true 1 vs) := pushH_at h.own (hne k fun hl => by have := h.far i hi hl; omega)
  have hpush := hrow.pushed ⟨H, by simp⟩ x
  refine ⟨pushV H (ll.getD i []).length, pushH H (vs.getD i undef) (ll.getD i []) x, hrow.push hb x, fun n c => store_cell hself hvi rfl rfl, ⟨get_set_self hself, by simp [h.len], fun j hj => ?_, fun j hj hl => ?_, fun a b hab ha hb' ha0 hb0 => ?_⟩, ?_, fun j c hj hc => ?_⟩
  · simp only [List.length_set] at hj
    by_cases hji : j = i
    · subst hji
      rw [getD_set_eq hi, getD_set_eq hvi]
      refine hpush.set_ne (.inr ?_) _
      show H.length + 1 ≠ k
      have := h.lt; omega
    · rw [getD_set_ne (Ne.symm hji), getD_set_ne (Ne.symm hji)]
      refine (h.row j hj).same fun hl => ?_
      have hjl := h.idlt hj hl
      have hjk := h.far j hj hl
      rw [List.getElem?_set_ne (by omega)]
      unfold pushH
      rw [appH_at (by simp only [List.length_append]; omega) (hne _ fun hl2 => h.apart i j (Ne.symm hji) hi hj hl2 hl), List.getElem?_append_left hjl]
  · simp only [List.length_set] at hj
    by_cases hji : j = i
    · subst hji
      rw [getD_set_eq hvi]
      show k < H.length + 1
      have := h.lt; omega
    · rw [getD_set_ne (Ne.symm hji)] at hl ⊢
      exact h.far j hj hl
  · simp only [List.length_set] at ha hb'
    by_cases hai : a = i
    · subst hai
      rw [getD_set_eq hvi, getD_set_ne hab]
      rw [getD_set_ne hab] at hb0
      have := h.idlt hb' hb0
      show H.length + 1 ≠ _
      omega
    · by_cases hbi : b = i
      · subst hbi
        rw [getD_set_eq hvi, getD_set_ne (Ne.symm hai)]
        rw [getD_set_ne (Ne.symm hai)] at ha0
        have := h.idlt ha ha0
        show _ ≠ H.length + 1
        omega
      · rw [getD_set_ne (Ne.symm hai), getD_set_ne (Ne.symm hbi)]
        rw [getD_set_ne (Ne.symm hai)] at ha0
        rw [getD_set_ne (Ne.symm hbi)] at hb0
        exact h.apart a b hab ha hb' ha0 hb0
  · show H.length ≤ H.length + 1
    omega
  · rw [List.getElem?_set_ne (Ne.symm hj.1)]
    exact pushH_at hc (hne j fun hl => hj.2 i hi hl)

theorem OwnR.low (h : OwnR k H ll vs) {j : Nat} (hj : j < k) : Aside k ll vs j := ⟨by omega, fun i hi hl => by have := h.far i hi hl; omega⟩
/-- What lay there before is left. -/
theorem OwnR.keep {H' : AHeap} (h : OwnR k H ll vs) (hx : Ext G H) (hk : G.length ≤ k) (hl : G.length ≤ H'.length) (hs : ∀ j c, Aside k ll vs j → H[j]? = some c → H'[j]? = some c) : Ext G H' :=
  ext_of_get hl fun i hi => by
    rw [← hx.get hi]
    have hlt : i < H.length := by have := hx.len; omega
    rw [List.getElem?_eq_getElem hlt]
    exact hs i _ (h.low (by omega)) (List.getElem?_eq_getElem hlt)
end
end Go.Lq
namespace Go.Lq
open Go
section
variable {H0 H B : AHeap} {ll : List (List Int)} {l : List Int} {v w : Value}
theorem OwnL.app (h : OwnL H0 H ll v) (N : AHeap) : OwnL H0 (H ++ N) ll v := by
  obtain ⟨vs, ho, hr, hd⟩ := h
  exact ⟨vs, ho.app N, fun i hi => by obtain ⟨id, e, h1, h2, h3⟩ := hr i hi; exact ⟨id, e, h1, h2, at_app h3⟩, hd⟩
theorem OwnL.shape (h : OwnL H0 H ll v) : ∃ a n c, v = .slice a n c := by
  obtain ⟨_, ho, _⟩ := h
  rcases ho.2 with ⟨rfl, _⟩ | ⟨id, rfl, _⟩ <;> exact ⟨_, _, _, rfl⟩
end
end Go.Lq
namespace Go.Lq
open Go
theorem closed_list {l : List Value} (h : ∀ v ∈ l, Closed v) : ∀ (i : Nat) v, (⟨l⟩ : Array Value)[i]? = some v → Closed v := fun i v hv => h v (List.mem_of_getElem? (by simpa using hv))
theorem closed_two (a b : Int) : Closed (.tuple #[.int .i64 a, .int .i64 b]) := .tuple _ (closed_list (l := [.int .i64 a, .int .i64 b]) fun v hv => by
  simp only [List.mem_cons, List.not_mem_nil, or_false] at hv
  rcases hv with rfl | rfl <;> exact .int _ _)
end Go.Lq
namespace Go.Lq
open Go
section
variable {P : Program}
theorem AOp.mono {r : ROp} {env : Env} {H : AHeap} {K K' : Value → AHeap → Prop} (h : AOp P r env H K) (hk : ∀ v H', K v H' → K' v H') : AOp P r env H K' := by
  unfold AOp at *
  split at h
  · exact h.mono hk
  · obtain ⟨v, H', h1, h2⟩ := h; exact ⟨v, H', h1, hk _ _ h2⟩
theorem AOps.mono {K K' : Env → AHeap → Prop} (hk : ∀ e H, K e H → K' e H) : ∀ {l : List ROper} {e : Env} {H : AHeap}, AOps P l K e H → AOps P l K' e H
  | [], e, H, h => hk _ _ h
  | o :: l, e, H, ⟨b, h1, h2, h3⟩ => ⟨b, h1, fun hb => (h2 hb).mono fun v H' h => AOps.mono hk h, fun hb => AOps.mono hk (h3 hb)⟩
theorem ADraw.mono {K K' : Env → AHeap → Prop} (hk : ∀ e H, K e H → K' e H) : ∀ {l : List (ROper × Bool)} {B : AHeap} {e : Env} {H : AHeap}, ADraw P l B K e H → ADraw P l B K' e H
  | [], B, e, H, h => hk _ _ h
  | (o, fr) :: l, B, e, H, ⟨b, h1, h2, h3⟩ => ⟨b, h1, fun hb => by obtain ⟨v, H', h4, h5⟩ := h2 hb; exact ⟨v, H', h4, ADraw.mono hk h5⟩, fun hb => ADraw.mono hk (h3 hb)⟩
/-- The rest of a region by itself. -/
theorem aops_mid {ar : Option Nat} {l : List ROper} {y : RCode} {Qy Qz : AExit → Env → AHeap → Prop} {env : Env} {H : AHeap} (m : List Bool) (I : Env → AHeap → Prop)
    (h1 : AOps P l (fun e' H' => I (forget m e') H') env H) (h2 : ∀ e H, I e H → AWP P ar y Qy e H) : AOps P l (Seq (AWP P ar y Qy) Qz .normal) env H :=
  AOps.mono (fun e' H' hI => awp_forget m (h2 _ _ hI)) h1
end
end Go.Lq

namespace Go.Lq
open Go

def flatI (P : Program) : Nat → TypeId → Bool
  | 0, _ => false
  | d + 1, t =>
    match P.underlying t with
    | some (.int .i64) => true
    | some (.struct fs) => offsOk P fs.toList 0 (P.cellsOf t) && fs.toList.all fun f => flatI P d f.type
    | some (.array n e) => decide (n * P.cellsOf e = P.cellsOf t) && flatI P d e
    | _ => false

section
variable {P : Program} {H : AHeap}
theorem ints_fields {cs : List Value} {Q : Value → Prop} : ∀ (fs : List Field) (o : Nat), offsOk P fs o cs.length = true → (∀ f ∈ fs, ∀ v ∈ (cs.drop f.offset).take (P.cellsOf f.type), Q v) → ∀ v ∈ cs.drop o, Q v
  | [], o, ho, _, v, hv => by
    simp only [offsOk, decide_eq_true_eq] at ho
    rw [List.drop_eq_nil_of_le (by omega)] at hv
    cases hv
  | f :: fs, o, ho, h, v, hv => by
    simp only [offsOk, Bool.and_eq_true, decide_eq_true_eq] at ho
    rw [← List.take_append_drop (P.cellsOf f.type) (cs.drop o), List.drop_drop] at hv
    rcases List.mem_append.1 hv with hv | hv
    · exact h f (by simp) v (by rw [ho.1]; exact hv)
    · exact ints_fields fs _ ho.2 (fun g hg => h g (by simp [hg])) v hv
theorem ints_row {cs : List Value} {Q : Value → Prop} {sz : Nat} : ∀ (m o : Nat), cs.length = (o + m) * sz → (∀ i, i < m → ∀ v ∈ (cs.drop ((o + i) * sz)).take sz, Q v) → ∀ v ∈ cs.drop (o * sz), Q v
  | 0, o, hl, _, v, hv => by
    rw [List.drop_eq_nil_of_le (by rw [hl]; simp)] at hv
    cases hv
  | m + 1, o, hl, h, v, hv => by
    rw [← List.take_append_drop sz (cs.drop (o * sz)), List.drop_drop] at hv
    rcases List.mem_append.1 hv with hv | hv
    · exact h 0 (by omega) v (by simpa using hv)
    · refine ints_row m (o + 1) (by rw [hl]; congr 1; omega) (fun i hi v hv => h (i + 1) (by omega) v (by rwa [show o + (i + 1) = o + 1 + i by omega])) v ?_
      rwa [Nat.add_mul, Nat.one_mul]
theorem Rep.allInts : ∀ (d : Nat) (t : TypeId) (cs : List Value), flatI P d t = true → Rep P H t cs → ∀ v ∈ cs, ∃ n, v = .int .i64 n ∧ InI64 n
  | 0, _, _, h, _ => by cases h
  | d + 1, t, cs, hp, hr => by
    simp only [flatI] at hp
    split at hp
    · rename_i ht
      obtain ⟨n, rfl, hw⟩ := hr.int_inv ht
      intro v hv
      simp only [List.mem_cons, List.not_mem_nil, or_false] at hv
      subst hv
      exact ⟨n, rfl, wf_i64 hw⟩
    · rename_i fs ht
      obtain ⟨hl, hf⟩ := hr.struct_inv ht
      simp only [Bool.and_eq_true] at hp
      rw [← hl] at hp
      have := ints_fields (P := P) (cs := cs) (Q := fun v => ∃ n, v = .int .i64 n ∧ InI64 n) fs.toList 0 hp.1 fun f hf' v hv => by
        obtain ⟨i, hi⟩ := List.getElem?_of_mem hf'
        exact Rep.allInts d _ _ (List.all_eq_true.1 hp.2 f hf') (hf i f (by simpa using hi)) v hv
      simpa using this
    · rename_i n e ht
      obtain ⟨hl, hf⟩ := hr.array_inv ht
      simp only [Bool.and_eq_true, decide_eq_true_eq] at hp
      have := ints_row (cs := cs) (Q := fun v => ∃ n, v = .int .i64 n ∧ InI64 n) (sz := P.cellsOf e) n 0 (by rw [hl, ← hp.1]; simp) fun i hi v hv => Rep.allInts d _ _ hp.2 (hf i hi) v (by simpa using hv)
      simpa using this
    · cases hp
theorem cells_ints {cs : List Value} (h : ∀ v ∈ cs, ∃ n, v = .int .i64 n ∧ InI64 n) : ∃ l : List Int, cs = l.map (.int .i64) ∧ ∀ n ∈ l, InI64 n := by
  induction cs with
  | nil => exact ⟨[], rfl, by simp⟩
  | cons v cs ih =>
    obtain ⟨n, rfl, hn⟩ := h v (by simp)
    obtain ⟨l, rfl, hl⟩ := ih fun v hv => h v (by simp [hv])
    exact ⟨n :: l, rfl, fun m hm => by rcases List.mem_cons.1 hm with rfl | hm; exact hn; exact hl m hm⟩
/-- A record (or a row) of n numbers. -/
theorem RepA.recI {d : Nat} {t : TypeId} {v : Value} {n : Nat} (ht : (∃ fs, P.underlying t = some (.struct fs)) ∨ ∃ m e, P.underlying t = some (.array m e)) (hc : P.cellsOf t = n) (hf : flatI P d t = true) (h : RepA P H t v) :
    ∃ l : List Int, v = .agg ⟨l.map (.int .i64)⟩ ∧ l.length = n ∧ ∀ m ∈ l, InI64 m := by
  obtain ⟨acs, rfl, hr⟩ : ∃ acs, v = .agg ⟨acs⟩ ∧ Rep P H t acs := by
    rcases ht with ⟨fs, ht⟩ | ⟨m, e, ht⟩
    · exact h.struct ht
    · exact h.array ht
  obtain ⟨l, rfl, hl⟩ := cells_ints (Rep.allInts d t acs hf hr)
  refine ⟨l, rfl, ?_, hl⟩
  have : (l.map (Value.int .i64)).length = P.cellsOf t := by
    rcases ht with ⟨fs, ht⟩ | ⟨m, e, ht⟩
    · exact (hr.struct_inv ht).1
    · exact (hr.array_inv ht).1
  rw [← hc, ← this]; simp
end
end Go.Lq
namespace Go.Lq
open Go
end Go.Lq
namespace Go.Lq
open Go
/-- A record: one cell, and numbers behind it. -/
theorem RepA.headed {P : Program} {H : AHeap} {d : Nat} {t : TypeId} {v : Value} {n : Nat} {fs : Array Field} {f0 : Field} (ht : P.underlying t = some (.struct fs)) (hct : P.cellsOf t = n + 1) (h0 : fs[0]? = some f0) (o0 : f0.offset = 0) (c0 : P.cellsOf f0.type = 1)
    (hoff : offsOk P (fs.toList.drop 1) 1 (n + 1) = true) (hfl : ((fs.toList.drop 1).all fun f => flatI P d f.type) = true) (h : RepA P H t v) :
    ∃ (s : Value) (l : List Int), v = .agg ⟨s :: l.map (.int .i64)⟩ ∧ l.length = n ∧ Rep P H f0.type [s] ∧ ∀ m ∈ l, InI64 m := by
  obtain ⟨acs, rfl, hr⟩ := h.struct ht
  obtain ⟨hl, hf⟩ := hr.struct_inv ht
  rw [hct] at hl
  have g0 := hf 0 f0 h0
  have hall := ints_fields (P := P) (cs := acs) (Q := fun v => ∃ n, v = .int .i64 n ∧ InI64 n) (fs.toList.drop 1) 1 (by rw [hl]; exact hoff) fun f hf' v hv => by
    obtain ⟨i, hi⟩ := List.getElem?_of_mem (List.mem_of_mem_drop hf')
    exact Rep.allInts d _ _ (List.all_eq_true.1 hfl f hf') (hf i f (by simpa using hi)) v hv
  match acs, hl with
  | s :: r, hl =>
    obtain ⟨l, rfl, hl2⟩ := cells_ints (cs := r) (by simpa using hall)
    rw [o0, c0] at g0
    refine ⟨s, l, rfl, by simpa using hl, ?_, hl2⟩
    simpa using g0
end Go.Lq
