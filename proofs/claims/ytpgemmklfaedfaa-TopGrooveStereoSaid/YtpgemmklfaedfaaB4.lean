/- Towards TopGrooveStereo of seat Ytpgemmklfaedfaa: it returns true for every input. Made out of the proof's own texts, merged. -/
import Derived.OrdersIn
import Derived.Test.YtpgemmklfaedfaaB3
set_option linter.unusedSimpArgs false
set_option linter.unnecessarySimpa false
set_option linter.unusedVariables false
set_option linter.unusedSectionVars false
namespace Go.Lq
open Go

def GenA (P : Program) (f : FuncId) (xs ys : List Value) (Fact : AHeap → Prop) (items : List (List Value)) : Prop :=
  ∀ (l : Nat) (I : List (List Value) → AHeap → Prop) (S : AHeap → Prop) (H : AHeap), (∀ rest H, I rest H → Fact H) →
    (∀ a rest H, I (a :: rest) H → ARound P l a H fun v H' => (v = .bool true ∧ I rest H') ∨ (v = .bool false ∧ S H')) → I items H → ACall P f (xs ++ [.func (.yield l) #[] #[]] ++ ys) H fun _ H' => I [] H' ∨ S H'

theorem GenA.mono {P : Program} {f : FuncId} {xs ys : List Value} {F F' : AHeap → Prop} {items : List (List Value)} (h : GenA P f xs ys F items) (hf : ∀ H, F' H → F H) : GenA P f xs ys F' items :=
  fun l I S H h1 h2 h3 => h l I S H (fun rest H hi => hf H (h1 rest H hi)) h2 h3

section
variable {P : Program} {ar : Option Nat} {g : Operand} {f : FuncId} {xs ys : List Value} {ps : List Nat} {assign body : RCode} {Q : AExit → Env → AHeap → Prop} {env : Env} {H : AHeap} {Fact : AHeap → Prop} {items : List (List Value)}

theorem get_set_self {H : AHeap} {l : Nat} {c d : AObj} (h : H[l]? = some c) : (H.set l d)[l]? = some d := by
  rw [List.getElem?_set_self (List.getElem?_eq_some_iff.1 h).1]
end

def Keeps (k : Nat) (G H : AHeap) : Prop := G.length ≤ H.length ∧ ∀ i, i < G.length → i ≠ k → H[i]? = G[i]?
theorem Keeps.app {k : Nat} {G H : AHeap} (h : Keeps k G H) (N : AHeap) : Keeps k G (H ++ N) :=
  ⟨by have := h.1; simp; omega, fun i hi hk => by rw [List.getElem?_append_left (by have := h.1; omega)]; exact h.2 i hi hk⟩
theorem Keeps.set {k j : Nat} {G H : AHeap} (h : Keeps k G H) (hj : j = k ∨ G.length ≤ j) (c : AObj) : Keeps k G (H.set j c) :=
  ⟨by simpa using h.1, fun i hi hk => by rw [List.getElem?_set_ne (by omega)]; exact h.2 i hi hk⟩
theorem Keeps.get {k : Nat} {G H : AHeap} (h : Keeps k G H) {i : Nat} {c : AObj} (hi : G[i]? = some c) (hk : i ≠ k) : H[i]? = some c := by
  rw [h.2 i (List.getElem?_eq_some_iff.1 hi).1 hk]; exact hi
theorem ext_of_get {H0 H : AHeap} (hl : H0.length ≤ H.length) (h : ∀ i, i < H0.length → H[i]? = H0[i]?) : Ext H0 H := by
  refine ⟨H.drop H0.length, List.ext_getElem? fun i => ?_⟩
  by_cases hi : i < H0.length
  · rw [List.getElem?_append_left hi]; exact h i hi
  · rw [List.getElem?_append_right (by omega), List.getElem?_drop]
    congr 1; omega
theorem Keeps.ext {k : Nat} {H0 G H : AHeap} (h : Keeps k G H) (hx : Ext H0 G) (hk : H0.length ≤ k) : Ext H0 H :=
  ext_of_get (by have := hx.len; have := h.1; omega) fun i hi => by rw [h.2 i (by have := hx.len; omega) (by omega)]; exact hx.get hi
theorem Keeps.trans {k : Nat} {G H H' : AHeap} (h : Keeps k G H) (h' : Ext H H') : Keeps k G H' := by obtain ⟨N, rfl⟩ := h'; exact h.app N
theorem appH_at {H : AHeap} {v : Value} {sz : Nat} {vs : List Value} {i : Nat} (hi : i < H.length) (hv : v = .slice none 0 0 ∨ idOf v ≠ i) : (appH H v sz vs)[i]? = H[i]? := by
  unfold appH
  split
  · rename_i a n c
    rw [List.getElem?_append_left (by simpa using hi), List.getElem?_set_ne]
    rcases hv with h | h
    · cases h
    · exact h
  · rw [List.getElem?_append_left hi]
end Go.Lq
namespace Go.Lq
open Go
theorem Own.set_ne {H0 H : AHeap} {sz n : Nat} {vs : List Value} {v : Value} (h : Own H0 H sz n vs v) {j : Nat} (hj : n = 0 ∨ idOf v ≠ j) (c : AObj) : Own H0 (H.set j c) sz n vs v :=
  ⟨h.1, h.2.imp_right fun ⟨id, e, h1, h2, hc⟩ => ⟨id, e, h1, h2, by
    subst e
    rw [List.getElem?_set_ne (by rcases hj with h | h; omega; exact fun e => h (by simpa [idOf] using e.symm))]; exact hc⟩⟩
theorem Own.weaken {H0 G H : AHeap} {sz n : Nat} {vs : List Value} {v : Value} (h : Own G H sz n vs v) (hg : H0.length ≤ G.length) : Own H0 H sz n vs v :=
  ⟨h.1, h.2.imp_right fun ⟨id, e, h1, h2⟩ => ⟨id, e, by omega, h2⟩⟩
theorem OwnI.weaken {H0 G H : AHeap} {l : List Int} {v : Value} (h : OwnI G H l v) (hg : H0.length ≤ G.length) : OwnI H0 H l v := Own.weaken h hg
theorem OwnP.weaken {H0 G H : AHeap} {l : List (Int × Int)} {v : Value} (h : OwnP G H l v) (hg : H0.length ≤ G.length) : OwnP H0 H l v := Own.weaken h hg
theorem OwnI.set_ne {H0 H : AHeap} {l : List Int} {v : Value} (h : OwnI H0 H l v) {j : Nat} (hj : l.length = 0 ∨ idOf v ≠ j) (c : AObj) : OwnI H0 (H.set j c) l v := Own.set_ne h hj c
theorem pushH_at {H : AHeap} {v : Value} {l : List Int} {x : Int} {i : Nat} {c : AObj} (h : H[i]? = some c) (hv : v = .slice none 0 0 ∨ idOf v ≠ i) : (pushH H v l x)[i]? = some c := by
  have hi := (List.getElem?_eq_some_iff.1 h).1
  unfold pushH
  rw [appH_at (by simp; omega) hv, List.getElem?_append_left hi]; exact h
theorem OwnI.nil_or {H0 H : AHeap} {l : List Int} {v : Value} (h : OwnI H0 H l v) {i : Nat} (hi : l.length = 0 ∨ idOf v ≠ i) : v = .slice none 0 0 ∨ idOf v ≠ i := by
  rcases h.2 with ⟨rfl, _⟩ | ⟨id, rfl, _, h0, _⟩
  · exact .inl rfl
  · exact .inr (by rcases hi with h | h; omega; exact h)
theorem OwnI.shape {H0 H : AHeap} {l : List Int} {v : Value} (h : OwnI H0 H l v) : ∃ a n c, v = .slice a n c := by
  rcases h.2 with ⟨rfl, _⟩ | ⟨id, rfl, _⟩ <;> exact ⟨_, _, _, rfl⟩
theorem isAtom_sl {v : Value} (h : ∃ a n c, v = .slice a n c) : isAtom v = true := by obtain ⟨_, _, _, rfl⟩ := h; rfl
theorem cells_sl {v : Value} (h : ∃ a n c, v = .slice a n c) : v.cells = ⟨[v]⟩ := by obtain ⟨_, _, _, rfl⟩ := h; rfl
end Go.Lq

namespace Go.Lq
open Go

def mkSliceR (bytes : Nat) (zero : List Value) (l c : Value) (H : AHeap) : Option (Value × AHeap) :=
  match l, c with
  | .int .i64 a, .int .i64 b =>
    if 0 ≤ a ∧ a ≤ b ∧ roomOk bytes b.toNat = true ∧ zero.all isAtom = true ∧ zero.all constOk = true then
      some (.slice (some ⟨H.length, 0, none⟩) a.toNat (if b = 0 then 0 else if a = 0 then 2 else a.toNat), H ++ [.cells true zero.length (zeroRow zero (a.toNat * zero.length))])
    else none
  | _, _ => none
theorem r_mkSlice {ρ : Operand → Value} {H : AHeap} {bytes : Nat} {zero : List Value} {x y : Operand} : ropRun (.mkSlice bytes zero x y) ρ H = mkSliceR bytes zero (ρ x) (ρ y) H := rfl
attribute [go_sem] r_mkSlice
theorem getD_set {α : Type} {l : List α} {d x : α} {i j : Nat} (hi : i < l.length) : (l.set i x).getD j d = if j = i then x else l.getD j d := by
  rw [List.getD_eq_getElem?_getD, List.getElem?_set, List.getD_eq_getElem?_getD]
  by_cases h : i = j
  · subst h; simp [hi]
  · rw [if_neg h, if_neg (fun e => h e.symm)]

theorem Ext.cell {H H' : AHeap} (h : Ext H H') {i : Nat} {c : AObj} (hc : H[i]? = some c) : H'[i]? = some c := (h.get (List.getElem?_eq_some_iff.1 hc).1).trans hc
end Go.Lq

namespace Go.Lq
open Go

def rowVs (k : Nat) (ll : List (List Int)) : List Value := (List.range ll.length).map fun i => .slice (some ⟨k + i, 0, none⟩) (ll.getD i []).length (ll.getD i []).length
def rowOs (ll : List (List Int)) : AHeap := ll.map fun l => .cells true 1 (l.map (.int .i64))
def retLV (H : AHeap) (ll : List (List Int)) : Value := if ll.length = 0 then .slice none 0 0 else .slice (some ⟨H.length + ll.length, 0, none⟩) ll.length ll.length
def retLN (H : AHeap) (ll : List (List Int)) : AHeap := if ll.length = 0 then [] else rowOs ll ++ [.cells true 1 (rowVs H.length ll)]

theorem rowOs_at {H N : AHeap} {ll : List (List Int)} {i : Nat} (hi : i < ll.length) : (H ++ (rowOs ll ++ N))[H.length + i]? = some (.cells true 1 ((ll.getD i []).map (.int .i64))) := by
  rw [List.getElem?_append_right (by omega), Nat.add_sub_cancel_left, List.getElem?_append_left (by simpa [rowOs] using hi), rowOs, List.getElem?_map, List.getElem?_eq_getElem hi, List.getD_eq_getElem?_getD, List.getElem?_eq_getElem hi]
  rfl
theorem rowOs_last {H : AHeap} {ll : List (List Int)} {c : AObj} : (H ++ (rowOs ll ++ [c]))[H.length + ll.length]? = some c := by
  have : (rowOs ll).length = ll.length := by simp [rowOs]
  rw [List.getElem?_append_right (by omega), Nat.add_sub_cancel_left, List.getElem?_append_right (by omega), this, Nat.sub_self]; rfl
theorem OwnL.ret {H0 H : AHeap} {ll : List (List Int)} (hx : H0.length ≤ H.length) : OwnL H0 (H ++ retLN H ll) ll (retLV H ll) := by
  unfold retLN retLV
  by_cases h0 : ll.length = 0
  · obtain rfl := List.length_eq_zero_iff.1 h0
    exact OwnL.nil _ _
  rw [if_neg h0, if_neg h0]
  have hv : ∀ i, i < ll.length → (rowVs H.length ll).getD i undef = .slice (some ⟨H.length + i, 0, none⟩) (ll.getD i []).length (ll.getD i []).length := fun i hi => by
    unfold rowVs
    rw [List.getD_eq_getElem?_getD, List.getElem?_map, List.getElem?_range hi]; rfl
  refine ⟨rowVs H.length ll, ⟨by simp [rowVs], .inr ⟨H.length + ll.length, rfl, by omega, by omega, rowOs_last⟩⟩, fun i hi => ⟨H.length + i, hv i hi, ?_, by omega, rowOs_at hi⟩, fun i j hij hj => ?_⟩
  · show H.length + ll.length ≠ H.length + i
    omega
  · rw [hv i (by omega), hv j hj]
    show H.length + i ≠ H.length + j
    omega

section
variable {P : Program} {g : FuncId} {args : List Value} {H : AHeap} {ll : List (List Int)} {f : Value → Value}
end
end Go.Lq

namespace Go.Lq
open Go

theorem getD_set_ne {α : Type} {l : List α} {d x : α} {i j : Nat} (h : i ≠ j) : (l.set i x).getD j d = l.getD j d := by
  rw [List.getD_eq_getElem?_getD, List.getElem?_set_ne h, List.getD_eq_getElem?_getD]
theorem getD_set_eq {α : Type} {l : List α} {d x : α} {i : Nat} (h : i < l.length) : (l.set i x).getD i d = x := by
  rw [getD_set h, if_pos rfl]
theorem awp_mid {P : Program} {ar : Option Nat} {R y : RCode} {Qy Qz : AExit → Env → AHeap → Prop} {env : Env} {H : AHeap} (m : List Bool) (I : Env → AHeap → Prop)
    (h1 : AWP P ar R (fun x e' H' => x = .normal ∧ I (forget m e') H') env H) (h2 : ∀ e H, I e H → AWP P ar y Qy e H) : AWP P ar R (Seq (AWP P ar y Qy) Qz) env H :=
  AWP.mono h1 fun x e' H' ⟨hx, hI⟩ => by subst hx; exact awp_forget m (h2 _ _ hI)

structure OwnR (k : Nat) (H : AHeap) (ll : List (List Int)) (vs : List Value) : Prop where
  own : H[k]? = some (.cells true 1 vs)
  len : vs.length = ll.length
  row : ∀ i, i < ll.length → OwnI [] H (ll.getD i []) (vs.getD i undef)
  far : ∀ i, i < ll.length → 0 < (ll.getD i []).length → k < idOf (vs.getD i undef)
  apart : ∀ i j, i ≠ j → i < ll.length → j < ll.length → 0 < (ll.getD i []).length → 0 < (ll.getD j []).length → idOf (vs.getD i undef) ≠ idOf (vs.getD j undef)

section
variable {k : Nat} {H G : AHeap} {ll : List (List Int)} {vs : List Value}

def Aside (k : Nat) (ll : List (List Int)) (vs : List Value) (j : Nat) : Prop := j ≠ k ∧ ∀ i, i < ll.length → 0 < (ll.getD i []).length → idOf (vs.getD i undef) ≠ j

theorem OwnI.same {H0 H H' : AHeap} {l : List Int} {v : Value} (h : OwnI H0 H l v) (hs : 0 < l.length → H'[idOf v]? = H[idOf v]?) : OwnI H0 H' l v := by
  refine ⟨h.1, h.2.imp_right fun ⟨id, e, h1, h2, hc⟩ => ⟨id, e, h1, h2, ?_⟩⟩
  subst e
  have := hs h2
  simp only [idOf] at this
  rw [this]; exact hc
theorem OwnR.lt (h : OwnR k H ll vs) : k < H.length := (List.getElem?_eq_some_iff.1 h.own).1
theorem OwnR.idlt (h : OwnR k H ll vs) {i : Nat} (hi : i < ll.length) (hl : 0 < (ll.getD i []).length) : idOf (vs.getD i undef) < H.length := ((h.row i hi).id_lt hl).2
theorem OwnR.app (h : OwnR k H ll vs) (N : AHeap) : OwnR k (H ++ N) ll vs := ⟨at_app h.own, h.len, fun i hi => (h.row i hi).app N, h.far, h.apart⟩
theorem OwnR.set (h : OwnR k H ll vs) {j : Nat} (hj : Aside k ll vs j) (c : AObj) : OwnR k (H.set j c) ll vs :=
  ⟨by rw [List.getElem?_set_ne hj.1]; exact h.own, h.len, fun i hi => (h.row i hi).same fun hl => by rw [List.getElem?_set_ne (Ne.symm (hj.2 i hi hl))], h.far, h.apart⟩
theorem OwnR.sl (h : OwnR k H ll vs) {n c : Nat} (hn : n = ll.length) : Sl H 1 n vs (.slice (some ⟨k, 0, none⟩) n c) := Sl.of h.own (by rw [h.len, hn, Nat.mul_one])
theorem store_cell {k e : Nat} {H : AHeap} {vs : List Value} {v : Value} {i n c : Nat} (h : H[k]? = some (.cells true e vs)) (hi : i < vs.length) (ha : isAtom v = true) (hc : v.cells = ⟨[v]⟩) :
    storeR 1 (addrOf (.slice (some ⟨k, 0, none⟩) n c) i) v H = some (undef, H.set k (.cells true e (vs.set i v))) := by
  have e3 : ([v] : List Value).all isAtom = true := by simp [ha]
  have e4 : (v.cells).toList = [v] := by rw [hc]
  have e5 : (v.cells).size = 1 := by rw [hc]; rfl
  simp only [addrOf, Nat.zero_add, storeR, e5, if_true, storeAt, h, e4, e3, and_true, List.length_cons, List.length_nil]
  rw [if_pos (by omega), setCells_one _ _ _ hi]
  rfl

theorem OwnR.push (h : OwnR k H ll vs) {i : Nat} (hi : i < ll.length) (hb : (ll.getD i []).length < 1000000000) (x : Int) :
    ∃ v2 H2, appendA 1 8 (H ++ [.cells true 1 [.int .i64 x]]) (vs.getD i undef) (.slice (some ⟨H.length, 0, none⟩) 1 1) = some (v2, H2) ∧
      (∀ n c, storeR 1 (addrOf (.slice (some ⟨k, 0, none⟩) n c) i) v2 H2 = some (undef, H2.set k (.cells true 1 (vs.set i v2)))) ∧
      OwnR k (H2.set k (.cells true 1 (vs.set i v2))) (ll.set i (ll.getD i [] ++ [x])) (vs.set i v2) ∧ H.length ≤ idOf v2 ∧
      ∀ j c, Aside k ll vs j → H[j]? = some c → (H2.set k (.cells true 1 (vs.set i v2)))[j]? = some c := by
  have hrow := h.row i hi
  have hvi : i < vs.length := by rw [h.len]; exact hi
  have hne : ∀ j, (0 < (ll.getD i []).length → idOf (vs.getD i undef) ≠ j) → vs.getD i undef = .slice none 0 0 ∨ idOf (vs.getD i undef) ≠ j := fun j hj => hrow.nil_or (by
    by_cases h0 : (ll.getD i []).length = 0
    · exact .inl h0
    · exact .inr (hj (by omega)))
  have hself : (pushH H (vs.getD i undef) (ll.getD i []) x)[k]? = some (.cells true 1 vs) := pushH_at h.own (hne k fun hl => by have := h.far i hi hl; omega)
  have hpush := hrow.pushed ⟨H, by simp⟩ x
  refine ⟨pushV H (ll.getD i []).length, pushH H (vs.getD i undef) (ll.getD i []) x, hrow.push hb x, fun n c => store_cell hself hvi rfl rfl, ⟨get_set_self hself, by simp [h.len], fun j hj => ?_, fun j hj hl => ?_, fun a b hab ha hb' ha0 hb0 => ?_⟩, ?_, fun j c hj hc => ?_⟩
  · simp only [List.length_set] at hj
    by_cases hji : j = i
    · subst hji
      rw [getD_set_eq hi, getD_set_eq hvi]
      refine hpush.set_ne (.inr ?_) _
      show H.length + 1 ≠ k
      have := h.lt; omega
    · rw [getD_set_ne (Ne.symm hji), getD_set_ne (Ne.symm hji)]
      refine (h.row j hj).same fun hl => ?_
      have hjl := h.idlt hj hl
      have hjk := h.far j hj hl
      rw [List.getElem?_set_ne (by omega)]
      unfold pushH
      rw [appH_at (by simp only [List.length_append]; omega) (hne _ fun hl2 => h.apart i j (Ne.symm hji) hi hj hl2 hl), List.getElem?_append_left hjl]
  · simp only [List.length_set] at hj
    by_cases hji : j = i
    · subst hji
      rw [getD_set_eq hvi]
      show k < H.length + 1
      have := h.lt; omega
    · rw [getD_set_ne (Ne.symm hji)] at hl ⊢
      exact h.far j hj hl
  · simp only [List.length_set] at ha hb'
    by_cases hai : a = i
    · subst hai
      rw [getD_set_eq hvi, getD_set_ne hab]
      rw [getD_set_ne hab] at hb0
      have := h.idlt hb' hb0
      show H.length + 1 ≠ _
      omega
    · by_cases hbi : b = i
      · subst hbi
        rw [getD_set_eq hvi, getD_set_ne (Ne.symm hai)]
        rw [getD_set_ne (Ne.symm hai)] at ha0
        have := h.idlt ha ha0
        show _ ≠ H.length + 1
        omega
      · rw [getD_set_ne (Ne.symm hai), getD_set_ne (Ne.symm hbi)]
        rw [getD_set_ne (Ne.symm hai)] at ha0
        rw [getD_set_ne (Ne.symm hbi)] at hb0
        exact h.apart a b hab ha hb' ha0 hb0
  · show H.length ≤ H.length + 1
    omega
  · rw [List.getElem?_set_ne (Ne.symm hj.1)]
    exact pushH_at hc (hne j fun hl => hj.2 i hi hl)

theorem OwnR.setRow (h : OwnR k H ll vs) {i : Nat} (hi : i < ll.length) {l : List Int} {v : Value} (hv : OwnI [] H l v) (hk : 0 < l.length → k < idOf v)
    (ha : ∀ j, j < ll.length → j ≠ i → 0 < (ll.getD j []).length → 0 < l.length → idOf (vs.getD j undef) ≠ idOf v) :
    (∀ n c, storeR 1 (addrOf (.slice (some ⟨k, 0, none⟩) n c) i) v H = some (undef, H.set k (.cells true 1 (vs.set i v)))) ∧ OwnR k (H.set k (.cells true 1 (vs.set i v))) (ll.set i l) (vs.set i v) := by
  have hvi : i < vs.length := by rw [h.len]; exact hi
  refine ⟨fun n c => store_cell h.own hvi (isAtom_sl hv.shape) (cells_sl hv.shape), get_set_self h.own, by simp [h.len], fun j hj => ?_, fun j hj hl => ?_, fun a b hab ha' hb ha0 hb0 => ?_⟩
  · simp only [List.length_set] at hj
    by_cases hji : j = i
    · subst hji
      rw [getD_set_eq hi, getD_set_eq hvi]
      refine hv.set_ne ?_ _
      by_cases h0 : l.length = 0
      · exact .inl h0
      · exact .inr (by have := hk (by omega); omega)
    · rw [getD_set_ne (Ne.symm hji), getD_set_ne (Ne.symm hji)]
      exact (h.row j hj).same fun hl => by rw [List.getElem?_set_ne (by have := h.far j hj hl; omega)]
  · simp only [List.length_set] at hj
    by_cases hji : j = i
    · subst hji
      rw [getD_set_eq hi] at hl
      rw [getD_set_eq hvi]
      exact hk hl
    · rw [getD_set_ne (Ne.symm hji)] at hl ⊢
      exact h.far j hj hl
  · simp only [List.length_set] at ha' hb
    by_cases hai : a = i
    · subst hai
      rw [getD_set_eq hvi, getD_set_ne hab]
      rw [getD_set_eq hi] at ha0
      rw [getD_set_ne hab] at hb0
      exact Ne.symm (ha b hb (Ne.symm hab) hb0 ha0)
    · by_cases hbi : b = i
      · subst hbi
        rw [getD_set_eq hvi, getD_set_ne (Ne.symm hai)]
        rw [getD_set_ne (Ne.symm hai)] at ha0
        rw [getD_set_eq hi] at hb0
        exact ha a ha' hab ha0 hb0
      · rw [getD_set_ne (Ne.symm hai), getD_set_ne (Ne.symm hbi)]
        rw [getD_set_ne (Ne.symm hai)] at ha0
        rw [getD_set_ne (Ne.symm hbi)] at hb0
        exact h.apart a b hab ha' hb ha0 hb0

theorem OwnR.low (h : OwnR k H ll vs) {j : Nat} (hj : j < k) : Aside k ll vs j := ⟨by omega, fun i hi hl => by have := h.far i hi hl; omega⟩
theorem OwnR.keep {H' : AHeap} (h : OwnR k H ll vs) (hx : Ext G H) (hk : G.length ≤ k) (hl : G.length ≤ H'.length) (hs : ∀ j c, Aside k ll vs j → H[j]? = some c → H'[j]? = some c) : Ext G H' :=
  ext_of_get hl fun i hi => by
    rw [← hx.get hi]
    have hlt : i < H.length := by have := hx.len; omega
    rw [List.getElem?_eq_getElem hlt]
    exact hs i _ (h.low (by omega)) (List.getElem?_eq_getElem hlt)
end
end Go.Lq
namespace Go.Lq
open Go
section
variable {H0 H B : AHeap} {ll : List (List Int)} {l : List Int} {v w : Value}
theorem OwnL.app (h : OwnL H0 H ll v) (N : AHeap) : OwnL H0 (H ++ N) ll v := by
  obtain ⟨vs, ho, hr, hd⟩ := h
  exact ⟨vs, ho.app N, fun i hi => by obtain ⟨id, e, h1, h2, h3⟩ := hr i hi; exact ⟨id, e, h1, h2, at_app h3⟩, hd⟩
theorem OwnL.shape (h : OwnL H0 H ll v) : ∃ a n c, v = .slice a n c := by
  obtain ⟨_, ho, _⟩ := h
  rcases ho.2 with ⟨rfl, _⟩ | ⟨id, rfl, _⟩ <;> exact ⟨_, _, _, rfl⟩
end
end Go.Lq
namespace Go.Lq
open Go
end Go.Lq
namespace Go.Lq
open Go
section
variable {P : Program}
theorem AOp.mono {r : ROp} {env : Env} {H : AHeap} {K K' : Value → AHeap → Prop} (h : AOp P r env H K) (hk : ∀ v H', K v H' → K' v H') : AOp P r env H K' := by
  unfold AOp at *
  split at h
  · exact h.mono hk
  · obtain ⟨v, H', h1, h2⟩ := h; exact ⟨v, H', h1, hk _ _ h2⟩
theorem AOps.mono {K K' : Env → AHeap → Prop} (hk : ∀ e H, K e H → K' e H) : ∀ {l : List ROper} {e : Env} {H : AHeap}, AOps P l K e H → AOps P l K' e H
  | [], e, H, h => hk _ _ h
  | o :: l, e, H, ⟨b, h1, h2, h3⟩ => ⟨b, h1, fun hb => (h2 hb).mono fun v H' h => AOps.mono hk h, fun hb => AOps.mono hk (h3 hb)⟩
theorem ADraw.mono {K K' : Env → AHeap → Prop} (hk : ∀ e H, K e H → K' e H) : ∀ {l : List (ROper × Bool)} {B : AHeap} {e : Env} {H : AHeap}, ADraw P l B K e H → ADraw P l B K' e H
  | [], B, e, H, h => hk _ _ h
  | (o, fr) :: l, B, e, H, h => by
    cases hv : isVR o.op && fr with
    | true =>
      rw [adraw_v hv] at h ⊢
      exact AOps.mono hk h
    | false =>
      rw [adraw_n hv] at h ⊢
      obtain ⟨b, h1, h2, h3⟩ := h
      exact ⟨b, h1, fun hb => by obtain ⟨v, H', h4, h5⟩ := h2 hb; exact ⟨v, H', h4, ADraw.mono hk h5⟩, fun hb => ADraw.mono hk (h3 hb)⟩
end
end Go.Lq


namespace Go.Lq
open Go

def wu (n : Int) : Int := IntKind.u64.wrap n
theorem wu_eq (n : Int) : wu n = n % 18446744073709551616 := by
  unfold wu IntKind.wrap IntKind.bits
  have : (2 : Int) ^ 64 = 18446744073709551616 := by decide
  simp [IntKind.signed]
theorem wu_id {n : Int} (h0 : 0 ≤ n) (h : n < 18446744073709551616) : wu n = n := by rw [wu_eq]; omega
section
variable {H : AHeap} {a b : Int}
theorem a_addU : arithR .add (.int .u64 a) (.int .u64 b) H = some (.int .u64 (wu (a + b)), H) := by simp [arithR, arithA, wu]
theorem a_subU : arithR .sub (.int .u64 a) (.int .u64 b) H = some (.int .u64 (wu (a - b)), H) := by simp [arithR, arithA, wu]
theorem a_mulU : arithR .mul (.int .u64 a) (.int .u64 b) H = some (.int .u64 (wu (a * b)), H) := by simp [arithR, arithA, wu]
theorem c_lssU {k : IntKind} : cmpR .lss (.int k a) (.int k b) H = some (.bool (decide (a < b)), H) := by simp [cmpR, cmpA]
theorem c_leqU {k : IntKind} : cmpR .leq (.int k a) (.int k b) H = some (.bool (decide (a ≤ b)), H) := by simp [cmpR, cmpA]
theorem c_gtrU {k : IntKind} : cmpR .gtr (.int k a) (.int k b) H = some (.bool (decide (b < a)), H) := by simp [cmpR, cmpA]
theorem c_geqU {k : IntKind} : cmpR .geq (.int k a) (.int k b) H = some (.bool (decide (b ≤ a)), H) := by simp [cmpR, cmpA]
theorem c_eqlU {k : IntKind} : cmpR .eql (.int k a) (.int k b) H = some (.bool (decide (a = b)), H) := by
  simp [cmpR, cmpA]
  by_cases h : a = b <;> simp [h]
theorem c_neqU {k : IntKind} : cmpR .neq (.int k a) (.int k b) H = some (.bool (decide (a ≠ b)), H) := by
  simp [cmpR, cmpA]
  by_cases h : a = b <;> simp [h]
theorem conv_iu : convR .u64 (.int .i64 a) H = some (.int .u64 (wu a), H) := rfl
theorem conv_ui : convR .i64 (.int .u64 a) H = some (.int .i64 (w64 a), H) := rfl
theorem conv_8i : convR .i64 (.int .u8 a) H = some (.int .i64 (w64 a), H) := rfl
def bandR (x y : Value) (H : AHeap) : Option (Value × AHeap) := match x, y with | .int k a, .int k' b => if k = k' then some (.int k (k.wrap (BitVec.ofInt k.bits a &&& BitVec.ofInt k.bits b).toNat), H) else none | _, _ => none
def borR (x y : Value) (H : AHeap) : Option (Value × AHeap) := match x, y with | .int k a, .int k' b => if k = k' then some (.int k (k.wrap (BitVec.ofInt k.bits a ||| BitVec.ofInt k.bits b).toNat), H) else none | _, _ => none
def shrR (x y : Value) (H : AHeap) : Option (Value × AHeap) := match x, y with | .int k a, .int _ b => if b < 0 then none else some (.int k (a.fdiv (2 ^ min b.toNat k.bits)), H) | _, _ => none
def shlR (x y : Value) (H : AHeap) : Option (Value × AHeap) := match x, y with | .int k a, .int _ b => if b < 0 then none else some (.int k (k.wrap (a * 2 ^ min b.toNat k.bits)), H) | _, _ => none
def idxSR (x i : Value) (H : AHeap) : Option (Value × AHeap) := match x, i with | .string s, .int _ n => (idxStr s n).map fun v => (v, H) | _, _ => none
def lenSR (x : Value) (H : AHeap) : Option (Value × AHeap) := match x with | .string s => some (.int .i64 s.size, H) | _ => none
def strOpR (op : BinOp) (x y : Value) (H : AHeap) : Option (Value × AHeap) := match x, y with | .string a, .string b => (strA op a b).map fun v => (v, H) | _, _ => none
def sliceSR (x : Value) (lo hi : Option Value) (H : AHeap) : Option (Value × AHeap) := match x with | .string s => (subS s lo hi).map fun v => (v, H) | _ => none
variable {ρ : Operand → Value} {x y : Operand}
theorem r_band : ropRun (.band x y) ρ H = bandR (ρ x) (ρ y) H := rfl
theorem r_bor : ropRun (.bor x y) ρ H = borR (ρ x) (ρ y) H := rfl
theorem r_shr : ropRun (.shr x y) ρ H = shrR (ρ x) (ρ y) H := rfl
theorem r_shl : ropRun (.shl x y) ρ H = shlR (ρ x) (ρ y) H := rfl
theorem r_idxS : ropRun (.idxS x y) ρ H = idxSR (ρ x) (ρ y) H := rfl
theorem r_lenS : ropRun (.lenS x) ρ H = lenSR (ρ x) H := rfl
theorem r_strOp {op : BinOp} : ropRun (.strOp op x y) ρ H = strOpR op (ρ x) (ρ y) H := rfl
theorem r_sliceS {lo hi : Option Operand} : ropRun (.sliceS x lo hi) ρ H = sliceSR (ρ x) (lo.map ρ) (hi.map ρ) H := rfl
theorem lenS_s {s : ByteArray} : lenSR (.string s) H = some (.int .i64 s.size, H) := rfl
theorem ofInt_nat {n : Int} (h0 : 0 ≤ n) (h : n < 18446744073709551616) : (BitVec.ofInt 64 n).toNat = n.toNat := by
  rw [BitVec.toNat_ofInt]
  have : ((2 ^ 64 : Nat) : Int) = 18446744073709551616 := by decide
  rw [this]
  congr 1
  omega
theorem band_32 (h0 : 0 ≤ a) (h : a < 18446744073709551616) : bandR (.int .u64 a) (.int .u64 4294967295) H = some (.int .u64 (a % 4294967296), H) := by
  have e : (BitVec.ofInt 64 a &&& BitVec.ofInt 64 4294967295).toNat = (a % 4294967296).toNat := by
    rw [BitVec.toNat_and, ofInt_nat h0 h, ofInt_nat (by decide) (by decide), show (4294967295 : Int).toNat = 2 ^ 32 - 1 by decide, Nat.and_two_pow_sub_one_eq_mod]
    have : (2 : Nat) ^ 32 = 4294967296 := by decide
    rw [this]
    omega
  show (if IntKind.u64 = IntKind.u64 then some (Value.int .u64 (wu ((BitVec.ofInt 64 a &&& BitVec.ofInt 64 4294967295).toNat : Int)), H) else none) = _
  rw [if_pos rfl, e, wu_id (by omega) (by omega)]
  congr 3
  omega
theorem shr_u {k : IntKind} (h0 : 0 ≤ a) (hb : 0 ≤ b) (h : b ≤ 64) : shrR (.int .u64 a) (.int k b) H = some (.int .u64 (a / (2 ^ b.toNat : Nat)), H) := by
  show (if b < 0 then none else some (Value.int .u64 (a.fdiv (2 ^ min b.toNat 64)), H)) = _
  rw [if_neg (by omega), show min b.toNat 64 = b.toNat by omega, Int.fdiv_eq_ediv_of_nonneg _ (Int.pow_nonneg (by decide))]
  congr 4
end
theorem shr_32 {k : IntKind} {a : Int} {H : AHeap} (h0 : 0 ≤ a) : shrR (.int .u64 a) (.int k 32) H = some (.int .u64 (a / 4294967296), H) := shr_u h0 (by decide) (by decide)
theorem shr_16 {k : IntKind} {a : Int} {H : AHeap} (h0 : 0 ≤ a) : shrR (.int .u64 a) (.int k 16) H = some (.int .u64 (a / 65536), H) := shr_u h0 (by decide) (by decide)
theorem shr_8 {k : IntKind} {a : Int} {H : AHeap} (h0 : 0 ≤ a) : shrR (.int .u64 a) (.int k 8) H = some (.int .u64 (a / 256), H) := shr_u h0 (by decide) (by decide)
theorem awp_midB {P : Program} {ar : Option Nat} {R y : RCode} {id : Nat} {Qy Qz : AExit → Env → AHeap → Prop} {env : Env} {H : AHeap} (m : List Bool) (I : Env → AHeap → Prop)
    (h1 : AWP P ar R (InBlock id fun x e' H' => x = .normal ∧ I (forget m e') H') env H) (h2 : ∀ e H, I e H → AWP P ar y Qy e H) : AWP P ar R (InBlock id (Seq (AWP P ar y Qy) Qz)) env H :=
  AWP.mono h1 fun x e' H' h => by
    cases x with
    | normal => exact awp_forget m (h2 _ _ h.2)
    | ret => exact absurd h.1 (by simp)
    | exit i =>
      by_cases hi : i = id
      · subst hi
        have h : AExit.normal = .normal ∧ I (forget m e') H' := by simpa [InBlock] using h
        have : Seq (AWP P ar y Qy) Qz .normal e' H' := awp_forget m (h2 _ _ h.2)
        simpa [InBlock] using this
      · have h : AExit.exit i = .normal ∧ I (forget m e') H' := by simpa [InBlock, hi] using h
        exact absurd h.1 (by simp)
attribute [go_sem] shr_32 shr_16 shr_8 band_32
attribute [go_sem] r_band r_bor r_shr r_shl r_idxS r_lenS r_strOp r_sliceS lenS_s a_addU a_subU a_mulU c_lssU c_leqU c_gtrU c_geqU c_eqlU c_neqU conv_iu conv_ui conv_8i wu_id
end Go.Lq

namespace Go.Lq
open Go

def flat3 (l : List (Int × Int × Int)) : List Value := l.flatMap fun p => [.int .i64 p.1, .int .i64 p.2.1, .int .i64 p.2.2]
theorem flat3_len (l : List (Int × Int × Int)) : (flat3 l).length = l.length * 3 := by
  induction l with
  | nil => rfl
  | cons p l ih => simp only [flat3, List.flatMap_cons, List.length_append, List.length_cons, List.length_nil] at *; omega
theorem flat3_drop : ∀ (l : List (Int × Int × Int)) (i : Nat), (flat3 l).drop (i * 3) = flat3 (l.drop i)
  | l, 0 => by simp
  | [], i + 1 => by simp [flat3]
  | p :: l, i + 1 => by
    have := flat3_drop l i
    rw [Nat.add_mul, Nat.one_mul]
    simpa [flat3] using this
theorem flat3_take3 {l : List (Int × Int × Int)} {i : Nat} (h : i < l.length) : ((flat3 l).drop (i * 3)).take 3 = [.int .i64 (l.getD i (0, 0, 0)).1, .int .i64 (l.getD i (0, 0, 0)).2.1, .int .i64 (l.getD i (0, 0, 0)).2.2] := by
  rw [flat3_drop, drop_getD (d := (0, 0, 0)) h]; rfl
theorem flat3_at {l : List (Int × Int × Int)} {i k : Nat} (h : i < l.length) (hk : k < 3) :
    (flat3 l).getD (i * 3 + k) undef = [Value.int .i64 (l.getD i (0, 0, 0)).1, .int .i64 (l.getD i (0, 0, 0)).2.1, .int .i64 (l.getD i (0, 0, 0)).2.2].getD k undef := by
  have h2 := flat3_take3 h
  have e : (((flat3 l).drop (i * 3)).take 3)[k]? = ((flat3 l).drop (i * 3))[k]? := by rw [List.getElem?_take, if_pos hk]
  rw [h2, List.getElem?_drop] at e
  rw [List.getD_eq_getElem?_getD, ← e]
  exact (List.getD_eq_getElem?_getD ..).symm
def Tris (H : AHeap) (l : List (Int × Int × Int)) (v : Value) : Prop := Sl H 3 l.length (flat3 l) v
section
variable {H H' : AHeap} {l : List (Int × Int × Int)} {v : Value}
theorem Tris.ext (h : Tris H l v) (hx : Ext H H') : Tris H' l v := Sl.ext h hx
theorem Tris.len (h : Tris H l v) {H' : AHeap} : lenR v H' = some (.int .i64 l.length, H') := Sl.len h
theorem Tris.idx (h : Tris H l v) {i : Int} {k : IntKind} {H' : AHeap} (h0 : 0 ≤ i) (h1 : i < l.length) : idxR 3 v (.int k i) H' = some (addrOf v (i.toNat * 3), H') := Sl.idx h h0 h1
theorem Tris.load (h : Tris H l v) (hx : Ext H H') {i : Nat} (hi : i < l.length) :
    loadNR 3 (addrOf v (i * 3)) H' = some (.agg ⟨[.int .i64 (l.getD i (0, 0, 0)).1, .int .i64 (l.getD i (0, 0, 0)).2.1, .int .i64 (l.getD i (0, 0, 0)).2.2]⟩, H') ∧
    loadNR 2 (addrOf v (i * 3 + 1)) H' = some (.agg ⟨[.int .i64 (l.getD i (0, 0, 0)).2.1, .int .i64 (l.getD i (0, 0, 0)).2.2]⟩, H') ∧
    faddrR 0 (addrOf v (i * 3)) H' = some (addrOf v (i * 3), H') ∧ faddrR 1 (addrOf v (i * 3)) H' = some (addrOf v (i * 3 + 1), H') ∧ faddrR 2 (addrOf v (i * 3)) H' = some (addrOf v (i * 3 + 2), H') ∧
    faddrR 0 (addrOf v (i * 3 + 1)) H' = some (addrOf v (i * 3 + 1), H') ∧ faddrR 1 (addrOf v (i * 3 + 1)) H' = some (addrOf v (i * 3 + 2), H') ∧
    loadR (addrOf v (i * 3)) H' = some (.int .i64 (l.getD i (0, 0, 0)).1, H') ∧ loadR (addrOf v (i * 3 + 1)) H' = some (.int .i64 (l.getD i (0, 0, 0)).2.1, H') ∧ loadR (addrOf v (i * 3 + 2)) H' = some (.int .i64 (l.getD i (0, 0, 0)).2.2, H') := by
  refine ⟨?_, ?_, Sl.faddr h (by omega), Sl.faddr h (by omega), Sl.faddr h (by omega), Sl.faddr h (by omega), Sl.faddr h (by omega), ?_, ?_, ?_⟩
  · rw [Sl.loadN h hx (by omega) (by omega), flat3_take3 hi]
  · rw [Sl.loadN h hx (by omega) (by omega)]
    have e : ((flat3 l).drop (i * 3 + 1)).take 2 = (((flat3 l).drop (i * 3)).take 3).drop 1 := by rw [← List.drop_drop, List.drop_take]
    rw [e, flat3_take3 hi]; rfl
  · rw [Sl.load h hx (by omega)]; have := flat3_at (k := 0) hi (by omega); rw [Nat.add_zero] at this; rw [this]; rfl
  · rw [Sl.load h hx (by omega), flat3_at hi (by omega)]; rfl
  · rw [Sl.load h hx (by omega), flat3_at hi (by omega)]; rfl
end
def OwnT (H0 H : AHeap) (l : List (Int × Int × Int)) (v : Value) : Prop := Own H0 H 3 l.length (flat3 l) v
theorem OwnT.nil (H0 H : AHeap) : OwnT H0 H [] (.slice none 0 0) := Own.nil H0 H 3
theorem OwnT.app {H0 H : AHeap} {l : List (Int × Int × Int)} {v : Value} (h : OwnT H0 H l v) (N : AHeap) : OwnT H0 (H ++ N) l v := Own.app h N
def pushTH (H : AHeap) (v : Value) (l : List (Int × Int × Int)) (x : Int × Int × Int) : AHeap := appH (H ++ [.cells true 3 [.int .i64 x.1, .int .i64 x.2.1, .int .i64 x.2.2]]) v 3 (flat3 (l ++ [x]))
theorem OwnT.push {H0 H : AHeap} {l : List (Int × Int × Int)} {v : Value} (h : OwnT H0 H l v) (hb : l.length < 1000000000) (a b c : Int) :
    appendA 3 24 (H ++ [.cells true 3 [.int .i64 a, .int .i64 b, .int .i64 c]]) v (.slice (some ⟨H.length, 0, none⟩) 1 1) = some (pushV H l.length, pushTH H v l (a, b, c)) := by
  have := Own.append (bytes := 24) (h.app [.cells true 3 [.int .i64 a, .int .i64 b, .int .i64 c]]) (Sl.last (H := H) (sz := 3) (n := 1) (vs := [.int .i64 a, .int .i64 b, .int .i64 c]) rfl 1) (by omega) rfl (roomOk_of (by omega) (by omega))
  rw [this]
  simp [pushV, pushTH, flat3]
theorem OwnT.pushed {H0 H : AHeap} {l : List (Int × Int × Int)} {v : Value} (h : OwnT H0 H l v) (hx : Ext H0 H) (x : Int × Int × Int) : OwnT H0 (pushTH H v l x) (l ++ [x]) (pushV H l.length) := by
  have := Own.appended (h.app [.cells true 3 [.int .i64 x.1, .int .i64 x.2.1, .int .i64 x.2.2]]) (m := 1) (cs := [.int .i64 x.1, .int .i64 x.2.1, .int .i64 x.2.2]) rfl (by omega) (by have := hx.len; simp; omega)
  unfold OwnT
  simpa [pushV, pushTH, flat3] using this
theorem OwnT.ext {H0 H : AHeap} {l : List (Int × Int × Int)} {v : Value} (h : OwnT H0 H l v) (hx : Ext H0 H) (x : Int × Int × Int) : Ext H0 (pushTH H v l x) :=
  Own.ext (h.app [.cells true 3 [.int .i64 x.1, .int .i64 x.2.1, .int .i64 x.2.2]]) (hx.app _)
theorem Tris.ret {H : AHeap} {l : List (Int × Int × Int)} : Tris (H ++ retN 3 l.length (flat3 l)) l (retV H l.length) := Sl.ret (flat3_len l)
theorem Tris.last {H : AHeap} {l : List (Int × Int × Int)} (c : Nat) : Tris (H ++ [.cells true 3 (flat3 l)]) l (.slice (some ⟨H.length, 0, none⟩) l.length c) := Sl.last (flat3_len l) c
def TrisRes (H : AHeap) (out : List (Int × Int × Int)) (e : Int) (v : Value) (H1 : AHeap) : Prop := v = .tuple #[retV H out.length, .int .i64 e] ∧ H1 = H ++ retN 3 out.length (flat3 out)
def TrisRet (H : AHeap) (out : List (Int × Int × Int)) (v : Value) (H1 : AHeap) : Prop := v = retV H out.length ∧ H1 = H ++ retN 3 out.length (flat3 out)
section
variable {P : Program} {g : FuncId} {args : List Value} {H : AHeap} {out : List (Int × Int × Int)} {e : Int}
theorem TrisRes.use {v : Value} {H1 : AHeap} (h : TrisRes H out e v H1) : ∃ s, v = .tuple #[s, .int .i64 e] ∧ Tris H1 out s ∧ Ext H H1 := by
  obtain ⟨rfl, rfl⟩ := h
  exact ⟨_, rfl, Tris.ret, _, rfl⟩
theorem TrisRet.use {v : Value} {H1 : AHeap} (h : TrisRet H out v H1) : Tris H1 out v ∧ Ext H H1 := by
  obtain ⟨rfl, rfl⟩ := h
  exact ⟨Tris.ret, _, rfl⟩
end

/-! ### Maps with pairs as keys -/

def mapGetR (z : Value) (ls : List (Nat × Bool)) (ok : Bool) (m k : Value) (H : AHeap) : Option (Value × AHeap) :=
  match m, k with
  | .map (some id), .agg cs => match H[id]? with
    | some (.map es) => if constOk z = true ∧ keyA ls cs = true then (findA ls cs es 0).map fun r => (gotA z ok r, H) else none
    | _ => none
  | _, _ => none
def mapPutR (ls : List (Nat × Bool)) (m k x : Value) (H : AHeap) : Option (Value × AHeap) :=
  match m, k with
  | .map (some id), .agg cs => match H[id]? with
    | some (.map es) => if keyA ls cs = true then ((findA ls cs es 0).bind fun r => putA es cs x r).map fun es' => (undef, H.set id (.map es')) else none
    | _ => none
  | _, _ => none
theorem r_makeMap {ρ : Operand → Value} {H : AHeap} : ropRun .makeMap ρ H = some (.map (some H.length), H ++ [.map []]) := rfl
theorem r_mapGet {ρ : Operand → Value} {H : AHeap} {z : Value} {ls : List (Nat × Bool)} {ok : Bool} {m k : Operand} : ropRun (.mapGet z ls ok m k) ρ H = mapGetR z ls ok (ρ m) (ρ k) H := rfl
theorem r_mapPut {ρ : Operand → Value} {H : AHeap} {ls : List (Nat × Bool)} {m k x : Operand} : ropRun (.mapPut ls m k x) ρ H = mapPutR ls (ρ m) (ρ k) (ρ x) H := rfl
attribute [go_sem] r_makeMap r_mapGet r_mapPut

theorem r_appendF {ρ : Operand → Value} {H : AHeap} {size bytes : Nat} {x y : Operand} : ropRun (.appendF size bytes x y) ρ H = appendF size bytes H (ρ x) (ρ y) := rfl
theorem appendF_nil {H : AHeap} {size bytes : Nat} {w : Value} : appendF size bytes H (.slice none 0 0) w = appendA size bytes H (.slice none 0 0) w := rfl
theorem appendF_empty {H : AHeap} {size bytes : Nat} {a : Addr} {w : Value} : appendF size bytes H (.slice (some a) 0 0) w = appendA size bytes H (.slice (some a) 0 0) w := rfl
attribute [go_sem] r_appendF appendF_nil appendF_empty
end Go.Lq

namespace Go.Lq
open Go

def readyA (l : List (ROper × List Nat)) (s : List Bool) : List Nat :=
  (List.range l.length).filter fun i => !s.getD i true && ((l[i]?).map fun p => p.2.all fun k => s.getD k false).getD false

def AAny (P : Program) (l : List (ROper × List Nat)) (K : Env → AHeap → Prop) : Nat → List Bool → Env → AHeap → Prop
  | 0, s, env, H => readyA l s = [] ∧ K env H
  | n + 1, s, env, H => (readyA l s = [] → K env H) ∧ ∀ i ∈ readyA l s, ∀ o : ROper × List Nat, l[i]? = some o →
      ∃ b, wantedA o.1.guard env = some b ∧ (b = true → AOp P o.1.op env H fun v H' => AAny P l K n (s.set i true) (env.put o.1.dst v) H') ∧
        (b = false → AAny P l K n (s.set i true) (env.put o.1.dst undef) H)

theorem zipA_get {P : Program} {ops : Array Oper} : ∀ {l : List Oper} {rs : List ROper}, l.mapM (compileOper P ops) = some rs → ∀ (i : Nat) (o : Oper), l[i]? = some o →
    ∃ r, (rs.zip (l.map afterA))[i]? = some (r, afterA o) ∧ compileOper P ops o = some r
  | [], rs, h, i, o, ho => by simp at ho
  | o :: l, rs, h, i, o', ho => by
    obtain ⟨r, rs', h1, h2, rfl⟩ := mapM_cons_some h
    cases i with
    | zero => simp at ho; subst ho; exact ⟨r, by simp, h1⟩
    | succ i =>
      obtain ⟨r', h3, h4⟩ := zipA_get h2 i o' (by simpa using ho)
      exact ⟨r', by simpa using h3, h4⟩

theorem mapM_len {α γ : Type} {f : α → Option γ} : ∀ {l : List α} {rs : List γ}, l.mapM f = some rs → rs.length = l.length
  | [], rs, h => by simp at h; subst h; rfl
  | o :: l, rs, h => by
    obtain ⟨r, rs', h1, h2, rfl⟩ := mapM_cons_some h
    simp [mapM_len h2]

theorem all_toList {α : Type} (a : Array α) (p : α → Bool) : a.all p = a.toList.all p := by cases a; simp

theorem all_filter {α : Type} (q : α → Bool) (g : Nat → Bool) (f : α → Nat) : ∀ l : List α, (l.all fun e => !q e || g (f e)) = ((l.filter q).map f).all g
  | [] => rfl
  | e :: l => by
    rw [List.all_cons, all_filter q g f l, List.filter_cons]
    cases q e <;> simp

theorem ready_eq {P : Program} {ops : Array Oper} {rs : List ROper} (hc : ops.toList.mapM (compileOper P ops) = some rs) (listed : Array Bool) :
    Region.ready .any ops listed = readyA (rs.zip (ops.toList.map afterA)) listed.toList := by
  have hl : (rs.zip (ops.toList.map afterA)).length = ops.size := by
    have := mapM_len hc
    rw [List.length_zip, List.length_map, this]
    simp
  unfold Region.ready readyA
  rw [hl]
  apply List.filter_congr
  intro i hi
  have hi : i < ops.size := List.mem_range.1 hi
  have hs : ∀ (k : Nat) (d : Bool), listed.getD k d = listed.toList.getD k d := fun k d => by
    simp [Array.getD_eq_getD_getElem?, List.getD_eq_getElem?_getD]
  have ho : ops.toList[i]? = some ops[i] := by simp [hi]
  have ho' : ops[i]? = some ops[i] := by simp [hi]
  obtain ⟨r, h1, _⟩ := zipA_get hc i _ ho
  rw [h1, ho', hs]
  simp only [Option.map_some, Option.getD_some]
  congr 1
  rw [all_toList]
  unfold afterA
  rw [← all_filter (Region.binds .any) (fun k => listed.toList.getD k false) (fun e : Edge => e.on)]
  congr 1
  funext e
  rw [hs]

theorem any_sound {P : Program} {ops : Array Oper} {rs : List ROper} (hc : ops.toList.mapM (compileOper P ops) = some rs) {base lo : Nat} {β₀ : Beta} {H₀ : AHeap} {w₀ : World} (hi₀ : Inj P β₀ H₀ base w₀)
    {ro : Option Nat} {m : Nat} {Q : AExit → Env → AHeap → Prop} :
    ∀ (n : Nat) (listed : Array Bool) (β : Beta) (H : AHeap) (w : World) (env : Env) (a : Act), Inj P β H base w → EnvRel β env a.tmps → Marks lo a.defers w →
      Post β₀ H₀ w₀ β H w → AAny P (rs.zip (ops.toList.map afterA)) (Q .normal) n listed.toList env H → wpAnyIn (wideF ro) m P .any ops (Out P lo β₀ H₀ base w₀ Q) n listed a w
  | 0, listed, β, H, w, env, a, hi, he, hk, hp, h => by
    obtain ⟨h1, h2⟩ := h
    exact ⟨by rw [ready_eq hc]; exact h1, .normal, env, H, β, rfl, h2, hi, he, hp, hk⟩
  | n + 1, listed, β, H, w, env, a, hi, he, hk, hp, h => by
    obtain ⟨h1, h2⟩ := h
    refine ⟨fun hr => ⟨.normal, env, H, β, rfl, h1 (by rw [← ready_eq hc]; exact hr), hi, he, hp, hk⟩, fun i hir => ?_⟩
    unfold wpOpIn
    cases ho : ops[i]? with
    | none =>
      exfalso
      unfold Region.ready at hir
      have := List.mem_range.1 (List.mem_filter.1 hir).1
      rw [Array.getElem?_eq_none_iff] at ho
      omega
    | some o =>
      have ho' : ops.toList[i]? = some o := by rw [Array.getElem?_toList]; exact ho
      obtain ⟨r, z1, hcr⟩ := zipA_get hc i o ho'
      have hset : (listed.setIfInBounds i true).toList = listed.toList.set i true := by simp
      obtain ⟨hdst, hop⟩ := compileOper_eq hcr
      obtain ⟨b, hb, ht, hf⟩ := h2 i (by rw [← ready_eq hc]; exact hir) _ z1
      have hw := wanted_rel he hcr hb
      dsimp only
      cases b with
      | true =>
        rw [if_pos hw]
        have ht := ht rfl
        dsimp only at ht
        rw [hop] at ht
        refine oper_sound hi he ht fun v cv β' H' w' hK hv hi' hp' => ?_
        rw [hdst, ← hset] at hK
        exact any_sound hc hi₀ n _ β' H' w' _ _ hi' (EnvRel.put (EnvRel.mono (hp'.le hi.dom) he) o.dst hv) ((hk.step hi hp').put) (hp.trans hi₀.dom hp') hK
      | false =>
        rw [if_neg (by rw [hw]; simp)]
        have hf := hf rfl
        dsimp only at hf
        rw [hdst, ← hset] at hf
        exact ⟨fun f _ => wideF_fn ro f, any_sound hc hi₀ n _ β H w _ _ hi (he.put o.dst (vr_undef β)) hk.put hp hf⟩

theorem awp_any {P : Program} {ar : Option Nat} {l : List (ROper × List Nat)} {Q : AExit → Env → AHeap → Prop} {env : Env} {H : AHeap} (h : AAny P l (Q .normal) l.length (List.replicate l.length false) env H) : AWP P ar (.anyO l) Q env H :=
  fun hm ro n base lo β w a code hc _ hi he hk => by
    obtain ⟨id, ops, rs, rfl, h1, rfl⟩ := compile_anyO hc
    have hl : (rs.zip (ops.toList.map afterA)).length = ops.size := by
      have := mapM_len h1
      rw [List.length_zip, List.length_map, this]
      simp
    rw [hl] at h
    refine wpIn_region_any hm ?_
    refine any_sound h1 hi ops.size _ β H _ env a (hi.drew _) he (hk.drew _) (Post.drew hi.dom _) ?_
    simpa using h
theorem aany_s {P : Program} {l : List (ROper × List Nat)} {K : Env → AHeap → Prop} {n : Nat} {s : List Bool} {env : Env} {H : AHeap} {i : Nat} {is : List Nat} (hr : readyA l s = i :: is)
    (h : ∀ j ∈ i :: is, ∀ o : ROper × List Nat, l[j]? = some o → ∃ b, wantedA o.1.guard env = some b ∧ (b = true → AOp P o.1.op env H fun v H' => AAny P l K n (s.set j true) (env.put o.1.dst v) H') ∧
        (b = false → AAny P l K n (s.set j true) (env.put o.1.dst undef) H)) : AAny P l K (n + 1) s env H :=
  ⟨fun h0 => (by rw [hr] at h0; cases h0), fun j hj => (by rw [hr] at hj; exact h j hj)⟩
theorem aany_e {P : Program} {l : List (ROper × List Nat)} {K : Env → AHeap → Prop} {n : Nat} {s : List Bool} {env : Env} {H : AHeap} (hr : readyA l s = []) (h : K env H) : AAny P l K n s env H := by
  cases n with
  | zero => exact ⟨hr, h⟩
  | succ n => exact ⟨fun _ => h, fun j hj => (by rw [hr] at hj; cases hj)⟩
end Go.Lq

namespace Go.Lq
open Go

def isT (t : Nat) : Operand → Bool
  | .tmp s => s == t
  | _ => false
def apartA (i d : Nat) (o : ROper) (y : ROper × List Nat) : Bool :=
  y.2.contains i || (y.1.dst != some d && !(ropOps y.1.op).any (isT d) && (match y.1.guard with | some (s, _) => s != d | none => true) && (match y.1.dst with | some c => !(ropOps o.op).any (isT c) | none => true))
def freeAt (l : List (ROper × List Nat)) (i : Nat) (d : Nat) (o : ROper) (as : List Nat) : Bool :=
  (List.range l.length).all fun j => j == i || as.contains j || (match l[j]? with | some y => apartA i d o y | none => true)

theorem readyA_iff {l : List (ROper × List Nat)} {s : List Bool} {j : Nat} : j ∈ readyA l s ↔ s.getD j true = false ∧ ∃ y, l[j]? = some y ∧ ∀ k ∈ y.2, s.getD k false = true := by
  unfold readyA
  rw [List.mem_filter, List.mem_range]
  cases ho : l[j]? with
  | none => simp
  | some y =>
    have hlt : j < l.length := (List.getElem?_eq_some_iff.1 ho).1
    simp [hlt]
theorem evalA_put {env : Env} {x : Operand} {d : Option Nat} {v : Value} (h : ∀ c, d = some c → isT c x = false) : evalA (env.put d v) x = evalA env x := by
  cases x with
  | tmp t =>
    simp only [evalA]
    have : d ≠ some t := fun e => by have := h t e; simp [isT] at this
    rw [List.getD_eq_getElem?_getD, List.getD_eq_getElem?_getD, Env.put_get env this]
  | _ => rfl
theorem AOp.congr {P : Program} {r : ROp} {env env' : Env} {H : AHeap} {K : Value → AHeap → Prop} (he : ∀ x ∈ ropOps r, evalA env x = evalA env' x) (h : AOp P r env H K) : AOp P r env' H K := by
  cases r with
  | call f args =>
    show AInvoke P (evalA env' f) (args.map (evalA env')) H K
    have h1 : evalA env f = evalA env' f := he f (by simp [ropOps])
    have h2 : args.map (evalA env) = args.map (evalA env') := List.map_congr_left fun x hx => he x (by simp [ropOps, hx])
    rw [← h1, ← h2]; exact h
  | _ =>
    obtain ⟨v, H', h1, h2⟩ := h
    exact ⟨v, H', by rw [← ropRun_congr he]; exact h1, h2⟩
theorem getD_set_ne' {s : List Bool} {i j : Nat} {b d : Bool} (h : i ≠ j) : (s.set i b).getD j d = s.getD j d := by
  rw [List.getD_eq_getElem?_getD, List.getD_eq_getElem?_getD, List.getElem?_set_ne h]
theorem getD_set_t {s : List Bool} {i j : Nat} (h : s.getD j false = true) : (s.set i true).getD j false = true := by
  by_cases e : i = j
  · subst e
    rw [List.getD_eq_getElem?_getD] at h ⊢
    rw [List.getElem?_set]
    by_cases hl : i < s.length
    · simp [hl]
    · rw [List.getElem?_eq_none (by omega)] at h; cases h
  · rw [getD_set_ne' e]; exact h

theorem aany_p {P : Program} {l : List (ROper × List Nat)} {K : Env → AHeap → Prop} {i d : Nat} {o : ROper} {as : List Nat} (hl : l[i]? = some (o, as)) (hd : o.dst = some d) (hg : o.guard = none) (hf : freeAt l i d o as = true)
    (hnc : ∀ f args, o.op ≠ .call f args) : ∀ (n : Nat) (s : List Bool) (env : Env) (H : AHeap) (v : Value), i ∈ readyA l s → (∀ H', ropRun o.op (evalA env) H' = some (v, H')) →
    AAny P l K n (s.set i true) (env.put (some d) v) H → AAny P l K (n + 1) s env H := by
  intro n
  induction n with
  | zero =>
    intro s env H v hi hv h
    refine ⟨fun h0 => (by rw [h0] at hi; cases hi), fun j hj y hy => ?_⟩
    by_cases hji : j = i
    · subst hji
      rw [hl] at hy
      obtain rfl := Option.some.inj hy
      refine ⟨true, by dsimp only; rw [hg]; rfl, fun _ => ?_, fun hb => by cases hb⟩
      dsimp only
      have ha : AOp P o.op env H fun v' H' => v' = v ∧ H' = H := by
        cases hop : o.op with
        | call f args => exact absurd hop (hnc f args)
        | _ => exact ⟨v, H, by rw [← hop]; exact hv H, rfl, rfl⟩
      exact ha.mono fun v' H' ⟨e1, e2⟩ => by subst e1; subst e2; rw [hd]; exact h
    · exfalso
      obtain ⟨i1, yi, i2, i3⟩ := readyA_iff.1 hi
      obtain ⟨j1, yj, j2, j3⟩ := readyA_iff.1 hj
      have hjr : j ∈ readyA l (s.set i true) := readyA_iff.2 ⟨by rw [getD_set_ne' (Ne.symm hji)]; exact j1, yj, j2, fun k hk => getD_set_t (j3 k hk)⟩
      have h0 : readyA l (s.set i true) = [] := h.1
      rw [h0] at hjr; cases hjr
  | succ n ih =>
    intro s env H v hi hv h
    refine ⟨fun h0 => (by rw [h0] at hi; cases hi), fun j hj y hy => ?_⟩
    by_cases hji : j = i
    · subst hji
      rw [hl] at hy
      obtain rfl := Option.some.inj hy
      refine ⟨true, by dsimp only; rw [hg]; rfl, fun _ => ?_, fun hb => by cases hb⟩
      dsimp only
      have ha : AOp P o.op env H fun v' H' => v' = v ∧ H' = H := by
        cases hop : o.op with
        | call f args => exact absurd hop (hnc f args)
        | _ => exact ⟨v, H, by rw [← hop]; exact hv H, rfl, rfl⟩
      exact ha.mono fun v' H' ⟨e1, e2⟩ => by subst e1; subst e2; rw [hd]; exact h
    · obtain ⟨i1, yi, i2, i3⟩ := readyA_iff.1 hi
      obtain ⟨j1, yj, j2, j3⟩ := readyA_iff.1 hj
      obtain rfl := Option.some.inj (hy.symm.trans j2)
      have hjl : j < l.length := (List.getElem?_eq_some_iff.1 j2).1
      have hap := List.all_eq_true.1 hf j (List.mem_range.2 hjl)
      rw [j2] at hap
      obtain rfl := Option.some.inj (hl.symm.trans i2)
      have hcon : ∀ b : Bool, s.getD j b = true → s.getD j (!b) = false → False := fun b g1 g2 => by
        rw [List.getD_eq_getElem?_getD] at g1 g2
        cases hx : s[j]? with
        | none =>
          have hjl' : s.length ≤ j := by rw [List.getElem?_eq_none_iff] at hx; exact hx
          rw [hx] at g1 g2
          simp at g1 g2
          subst g1
          rw [List.getD_eq_getElem?_getD, hx] at j1
          cases j1
        | some c => rw [hx] at g1 g2; simp at g1 g2; rw [g1] at g2; cases g2
      have hap : as.contains j = true ∨ apartA i d o y = true := by simpa [hji] using hap
      rcases hap with hap | hap
      · exact (hcon false (i3 j (by simpa using hap)) j1).elim
      unfold apartA at hap
      rcases Bool.or_eq_true _ _ ▸ hap with hc | hap
      · exfalso
        have hm : i ∈ y.2 := by simpa using hc
        have h1 := j3 i hm
        rw [List.getD_eq_getElem?_getD] at h1 i1
        cases hx : s[i]? with
        | none => rw [hx] at h1; cases h1
        | some b => rw [hx] at h1 i1; simp at h1 i1; rw [h1] at i1; cases i1
      simp only [Bool.and_eq_true, bne_iff_ne, ne_eq, Bool.not_eq_true'] at hap
      obtain ⟨⟨⟨a1, a2⟩, a3⟩, a4⟩ := hap
      have hdr : ∀ x ∈ ropOps y.1.op, isT d x = false := fun x hx => by
        have := List.any_eq_false.1 a2 x hx
        simpa using this
      have hjr : j ∈ readyA l (s.set i true) := readyA_iff.2 ⟨by rw [getD_set_ne' (Ne.symm hji)]; exact j1, y, j2, fun k hk => getD_set_t (j3 k hk)⟩
      obtain ⟨b, hb, ht, hff⟩ := h.2 j hjr y j2
      have hir : i ∈ readyA l (s.set j true) := readyA_iff.2 ⟨by rw [getD_set_ne' hji]; exact i1, _, i2, fun k hk => getD_set_t (i3 k hk)⟩
      have hv' : ∀ u H', ropRun o.op (evalA (env.put y.1.dst u)) H' = some (v, H') := fun u H' => by
        rw [← hv H']
        refine ropRun_congr fun x hx => evalA_put fun c hc => ?_
        rw [hc] at a4
        have a4 : (ropOps o.op).any (isT c) = false := by simpa using a4
        have := List.any_eq_false.1 a4 x hx
        simpa using this
      have hcomm : ∀ u, ((env.put (some d) v).put y.1.dst u) = ((env.put y.1.dst u).put (some d) v) := fun u => Env.put_comm env v u fun c hc e => by
        cases hc; exact a1 e
      have hset : (s.set i true).set j true = (s.set j true).set i true := List.set_comm _ _ (Ne.symm hji)
      refine ⟨b, ?_, fun hbt => ?_, fun hbf => ?_⟩
      · rw [← hb]
        unfold wantedA
        cases hgy : y.1.guard with
        | none => rfl
        | some p =>
          obtain ⟨t, want⟩ := p
          rw [hgy] at a3
          have a3 : t ≠ d := by simpa using a3
          have := Env.put_get env (x := some d) (v := v) (t := t) (fun e => a3 (by cases e; rfl))
          dsimp only
          rw [this]
      · refine (AOp.congr (env := env.put (some d) v) (fun x hx => evalA_put fun c hc => by cases hc; exact hdr x hx) (ht hbt)).mono fun u H' hk => ?_
        rw [hcomm, hset] at hk
        exact ih _ _ _ v hir (hv' u) hk
      · have hk := hff hbf
        rw [hcomm, hset] at hk
        exact ih _ _ _ v hir (hv' undef) hk
end Go.Lq

namespace Go.Lq
open Go

def pureR : ROp → Bool
  | .mov _ | .fieldAddr _ _ | .idxAddr _ _ _ => true
  | _ => false
theorem pure_any {r : ROp} {ρ : Operand → Value} {H H1 : AHeap} {v : Value} (hp : pureR r = true) (h : ropRun r ρ H = some (v, H1)) : H1 = H ∧ ∀ H', ropRun r ρ H' = some (v, H') := by
  cases r with
  | mov x => simp only [ropRun, Option.some.injEq, Prod.mk.injEq] at h ⊢; exact ⟨h.2.symm, fun _ => ⟨h.1, trivial⟩⟩
  | fieldAddr o x =>
    simp only [ropRun] at h ⊢
    split at h
    · cases h; exact ⟨rfl, fun _ => rfl⟩
    · cases h
  | idxAddr n x i =>
    simp only [ropRun] at h ⊢
    split at h
    · split at h
      · rename_i hc
        cases h; exact ⟨rfl, fun _ => by rw [if_pos hc]⟩
      · cases h
    · cases h
  | _ => cases hp

section
variable {P : Program} {l : List (ROper × List Nat)} {K : Env → AHeap → Prop} {n : Nat} {s : List Bool} {env : Env} {H : AHeap}
def pureOk (l : List (ROper × List Nat)) : List Nat → List Bool → Bool
  | [], _ => true
  | i :: is, s => (readyA l s).contains i && (match l[i]? with
      | some (o, as) => (match o.dst, o.guard with | some d, none => freeAt l i d o as && pureR o.op | _, _ => false)
      | none => false) && pureOk l is (s.set i true)
def takeOps (l : List (ROper × List Nat)) (is : List Nat) : List ROper := is.filterMap fun i => (l[i]?).map (·.1)
def setAll (s : List Bool) : List Nat → List Bool
  | [] => s
  | i :: is => setAll (s.set i true) is
theorem aany_pures : ∀ (is : List Nat) (s : List Bool) (env : Env) (H : AHeap) (m : Nat), m = n + is.length → pureOk l is s = true → AOps P (takeOps l is) (fun e H' => AAny P l K n (setAll s is) e H') env H → AAny P l K m s env H
  | [], s, env, H, m, hm, _, h => by subst hm; exact h
  | i :: is, s, env, H, m, hm, hk, h => by
    subst hm
    simp only [pureOk, Bool.and_eq_true] at hk
    obtain ⟨⟨h1, h2⟩, h3⟩ := hk
    have hi : i ∈ readyA l s := by simpa using h1
    split at h2
    · rename_i o as hl
      split at h2
      · rename_i d hd hg
        simp only [Bool.and_eq_true] at h2
        have ht : takeOps l (i :: is) = o :: takeOps l is := by simp [takeOps, hl]
        rw [ht] at h
        obtain ⟨b, hb, htt, _⟩ := h
        rw [hg] at hb
        cases hb
        have ha := htt rfl
        have hpu := h2.2
        have hnc : ∀ f args, o.op ≠ .call f args := fun f args e => by rw [e] at hpu; cases hpu
        have ha' : ∃ v H1, ropRun o.op (evalA env) H = some (v, H1) ∧ AOps P (takeOps l is) (fun e H' => AAny P l K n (setAll (s.set i true) is) e H') (env.put o.dst v) H1 := by
          unfold AOp at ha
          split at ha
          · rename_i f args e; exact absurd e (hnc f args)
          · exact ha
        obtain ⟨v, H1, hr, hk⟩ := ha'
        obtain ⟨rfl, hall⟩ := pure_any hpu hr
        rw [hd] at hk
        exact aany_p hl hd hg h2.1 hnc (n + is.length) s env H1 v hi hall (aany_pures is (s.set i true) (env.put (some d) v) H1 (n + is.length) rfl h3 hk)
      · cases h2
    · cases h2
theorem aany_1 {i : Nat} {o : ROper} {as : List Nat} (hr : readyA l s = [i]) (hl : l[i]? = some (o, as)) (h : AOps P [o] (fun e H' => AAny P l K n (s.set i true) e H') env H) : AAny P l K (n + 1) s env H :=
  aany_s hr fun j hj y hy => by
    simp only [List.mem_cons, List.not_mem_nil, or_false] at hj
    subst hj
    rw [hl] at hy
    obtain rfl := Option.some.inj hy
    exact h
theorem aany_2 {i k : Nat} {o u : ROper} {as bs : List Nat} (hr : readyA l s = [i, k]) (hl : l[i]? = some (o, as)) (hm : l[k]? = some (u, bs)) (h1 : AOps P [o] (fun e H' => AAny P l K n (s.set i true) e H') env H)
    (h2 : AOps P [u] (fun e H' => AAny P l K n (s.set k true) e H') env H) : AAny P l K (n + 1) s env H :=
  aany_s hr fun j hj y hy => by
    simp only [List.mem_cons, List.not_mem_nil, or_false] at hj
    rcases hj with rfl | rfl
    · rw [hl] at hy
      obtain rfl := Option.some.inj hy
      exact h1
    · rw [hm] at hy
      obtain rfl := Option.some.inj hy
      exact h2
end
end Go.Lq

namespace Go.Lq
open Go

def famD : List Int × Value := ([], .slice none 0 0)
structure Fam (H0 H : AHeap) (ls : List (List Int × Value)) : Prop where
  ext : Ext H0 H
  own : ∀ i, i < ls.length → OwnI H0 H (ls.getD i famD).1 (ls.getD i famD).2
  apart : ∀ i j, i ≠ j → i < ls.length → j < ls.length → 0 < (ls.getD i famD).1.length → 0 < (ls.getD j famD).1.length → idOf (ls.getD i famD).2 ≠ idOf (ls.getD j famD).2
def RowF (H : AHeap) (x : Int) (w : Value) (ls : List (List Int × Value)) : Prop :=
  ∃ j, w = .slice (some ⟨j, 0, none⟩) 1 1 ∧ H[j]? = some (.cells true 1 [.int .i64 x]) ∧ ∀ i, i < ls.length → 0 < (ls.getD i famD).1.length → idOf (ls.getD i famD).2 ≠ j
theorem OwnI.id_lt' {H0 H : AHeap} {l : List Int} {v : Value} (h : OwnI H0 H l v) (h0 : 0 < l.length) : idOf v < H.length := (h.id_lt h0).2
theorem Fam.nil (H : AHeap) (n : Nat) : Fam H H (List.replicate n famD) :=
  have e : ∀ i, (List.replicate n famD).getD i famD = famD := fun i => by
    rw [List.getD_eq_getElem?_getD, List.getElem?_replicate]; split <;> rfl
  ⟨Ext.refl _, fun i _ => by rw [e]; exact OwnI.nil _ _, fun i j _ _ _ h => by rw [e] at h; cases h⟩
theorem Fam.base {H0 H1 H : AHeap} {ls : List (List Int × Value)} (h : Fam H1 H ls) (hx : Ext H0 H1) : Fam H0 H ls :=
  ⟨hx.trans h.ext, fun i hi => Own.weaken (h.own i hi) hx.len, h.apart⟩
theorem Fam.lay {H0 H : AHeap} {ls : List (List Int × Value)} (h : Fam H0 H ls) (x : Int) :
    Fam H0 (H ++ [.cells true 1 [.int .i64 x]]) ls ∧ RowF (H ++ [.cells true 1 [.int .i64 x]]) x (.slice (some ⟨H.length, 0, none⟩) 1 1) ls ∧ ∀ y w, RowF H y w ls → RowF (H ++ [.cells true 1 [.int .i64 x]]) y w ls :=
  ⟨⟨h.ext.app _, fun i hi => (h.own i hi).app _, h.apart⟩, ⟨H.length, rfl, by simp, fun i hi h0 => by have := (h.own i hi).id_lt' h0; omega⟩, fun y w ⟨j, e, h1, h2⟩ => ⟨j, e, by
    rw [List.getElem?_append_left (List.getElem?_eq_some_iff.1 h1).1]; exact h1, h2⟩⟩
theorem getD_set_k {α : Type} {l : List α} {i k : Nat} {x d : α} (hk : k < l.length) : (l.set k x).getD i d = if k = i then x else l.getD i d := by
  rw [List.getD_eq_getElem?_getD, List.getD_eq_getElem?_getD, List.getElem?_set]
  split
  · rename_i e; subst e; simp [hk]
  · rfl
theorem Fam.push {H0 H : AHeap} {ls : List (List Int × Value)} {k : Nat} {x : Int} {w : Value} (h : Fam H0 H ls) (hk : k < ls.length) (hr : RowF H x w ls) (hb : (ls.getD k famD).1.length < 1000000000) :
    ∃ v' H', appendA 1 8 H (ls.getD k famD).2 w = some (v', H') ∧ Fam H0 H' (ls.set k ((ls.getD k famD).1 ++ [x], v')) ∧ Ext H0 H' ∧ ∀ y u, RowF H y u ls → RowF H' y u (ls.set k ((ls.getD k famD).1 ++ [x], v')) := by
  obtain ⟨j, rfl, hj, hja⟩ := hr
  have hok := h.own k hk
  generalize hlk : (ls.getD k famD).1 = lk at *
  generalize hvk : (ls.getD k famD).2 = vk at *
  have hsl : Sl H 1 1 [.int .i64 x] (.slice (some ⟨j, 0, none⟩) 1 1) := by
    refine ⟨rfl, .inr ⟨j, 0, 1, rfl, fun _ => ?_⟩⟩
    unfold cellsAt
    rw [hj]
    rfl
  have hap := Own.append (bytes := 8) hok hsl (by omega) rfl (roomOk_of (by omega) (by omega))
  have hout := Own.appended hok (m := 1) (cs := [.int .i64 x]) rfl (by omega) h.ext.len
  have hxe : Ext H0 (appH H vk 1 (lk.map (.int .i64) ++ [.int .i64 x])) := Own.ext hok h.ext
  have hother : ∀ i, i < ls.length → i ≠ k → OwnI H0 (appH H vk 1 (lk.map (.int .i64) ++ [.int .i64 x])) (ls.getD i famD).1 (ls.getD i famD).2 := fun i hi hik => by
    have ho := h.own i hi
    refine ⟨ho.1, ho.2.imp_right fun ⟨id, e, h1, h2, hc⟩ => ⟨id, e, h1, h2, ?_⟩⟩
    rw [appH_at (List.getElem?_eq_some_iff.1 hc).1 (hok.nil_or ?_)]
    · exact hc
    · by_cases h0 : lk.length = 0
      · exact .inl h0
      · right
        have := h.apart k i (Ne.symm hik) hk hi (by rw [hlk]; omega) h2
        rw [hvk, e] at this
        exact this
  refine ⟨_, _, hap, ⟨hxe, fun i hi => ?_, fun a b hab ha hb2 h0 h1 => ?_⟩, hxe, fun y u ⟨ju, e, hu, hua⟩ => ⟨ju, e, ?_, fun i hi h0 => ?_⟩⟩
  · rw [List.length_set] at hi
    rw [getD_set_k hk]
    split
    · have : OwnI H0 (appH H vk 1 (lk.map (.int .i64) ++ [.int .i64 x])) (lk ++ [x]) (.slice (some ⟨H.length, 0, none⟩) (lk.length + 1) (lk.length + 1)) := by
        unfold OwnI
        simpa using hout
      exact this
    · rename_i hki
      exact hother i hi (fun e => hki e.symm)
  · rw [List.length_set] at ha hb2
    rw [getD_set_k hk] at h0 h1 ⊢
    rw [getD_set_k hk] 
    split
    · rename_i e1
      split
      · rename_i e2; exact absurd (e1.symm.trans e2) hab
      · rename_i e2
        rw [if_neg e2] at h1
        have := (h.own b hb2).id_lt' h1
        show H.length ≠ _
        omega
    · rename_i e1
      rw [if_neg e1] at h0
      split
      · have := (h.own a ha).id_lt' h0
        show _ ≠ H.length
        omega
      · rename_i e2
        rw [if_neg e2] at h1
        exact h.apart a b hab ha hb2 h0 h1
  · rw [appH_at (List.getElem?_eq_some_iff.1 hu).1 (hok.nil_or ?_)]
    · exact hu
    · by_cases h0 : lk.length = 0
      · exact .inl h0
      · right
        have := hua k hk (by rw [hlk]; omega)
        rw [hvk] at this
        exact this
  · rw [List.length_set] at hi
    rw [getD_set_k hk] at h0 ⊢
    have hjl := (List.getElem?_eq_some_iff.1 hu).1
    split
    · show H.length ≠ ju
      omega
    · rename_i e1
      rw [if_neg e1] at h0
      exact hua i hi h0
end Go.Lq
