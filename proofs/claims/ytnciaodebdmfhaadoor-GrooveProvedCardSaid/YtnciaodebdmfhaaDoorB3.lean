/- Towards GrooveProved of seat YtnciaodebdmfhaaDoor: it returns true for every input. Made out of the proof's own texts, merged. -/
import Derived.Test.YtnciaodebdmfhaaDoorB2
set_option linter.unusedSimpArgs false
namespace Go.Lq
open Go

/-- The body of a range has ended a round. -/
def Rounded (l : Nat) (Rb : AObj) (J : AHeap → Prop) (S : AExit → AHeap → Prop) (x : AExit) (_ : Env) (H : AHeap) : Prop :=
  H[l]? = some Rb ∧ ((x = .normal ∧ J H) ∨ (x ≠ .normal ∧ S x H))

theorem rounded_n {l : Nat} {Rb : AObj} {J : AHeap → Prop} {S : AExit → AHeap → Prop} {e : Env} {H : AHeap} (h1 : H[l]? = some Rb) (h2 : J H) : Rounded l Rb J S .normal e H := ⟨h1, .inl ⟨rfl, h2⟩⟩
theorem rounded_x {l : Nat} {Rb : AObj} {J : AHeap → Prop} {S : AExit → AHeap → Prop} {id : Nat} {e : Env} {H : AHeap} (h1 : H[l]? = some Rb) (h2 : S (.exit id) H) : Rounded l Rb J S (.exit id) e H := ⟨h1, .inr ⟨by simp, h2⟩⟩
/-- One round of a range's body. -/
def Round (P : Program) (l : Nat) (assign body : RCode) (env : Env) (H1 : AHeap) (J : AHeap → Prop) (S : AExit → AHeap → Prop) : Prop :=
  ∀ R Rb : AObj, (∃ r, Rb = .loop r) → H1[l]? = some R → AWP P (some l) assign (fun x env1 H2 => x = .normal ∧ H2[l]? = some R ∧ AWP P (some l) body (Rounded l Rb J S) env1 (H2.set l Rb)) env H1

/-- The generator f with these captured values hands items over one by one, until a round ends the range. -/
def GenA (P : Program) (f : FuncId) (xs ys : List Value) (Fact : AHeap → Prop) (items : List (List Value)) : Prop :=
  ∀ (l : Nat) (I : List (List Value) → AHeap → Prop) (S : AHeap → Prop) (H : AHeap), (∀ rest H, I rest H → Fact H) →
    (∀ a rest H, I (a :: rest) H → ARound P l a H fun v H' => (v = .bool true ∧ I rest H') ∨ (v = .bool false ∧ S H')) → I items H → ACall P f (xs ++ [.func (.yield l) #[] #[]] ++ ys) H fun _ H' => I [] H' ∨ S H'

theorem GenA.mono {P : Program} {f : FuncId} {xs ys : List Value} {F F' : AHeap → Prop} {items : List (List Value)} (h : GenA P f xs ys F items) (hf : ∀ H, F' H → F H) : GenA P f xs ys F' items :=
  fun l I S H h1 h2 h3 => h l I S H (fun rest H hi => hf H (h1 rest H hi)) h2 h3

section
variable {P : Program} {ar : Option Nat} {g : Operand} {f : FuncId} {xs ys : List Value} {ps : List Nat} {assign body : RCode} {Q : AExit → Env → AHeap → Prop} {env : Env} {H : AHeap} {Fact : AHeap → Prop} {items : List (List Value)}

def recOf (env : Env) (ps : List Nat) (assign body : RCode) : ALoop := { state := .ready, pending := none, env := env, params := ps, assign := assign, body := body }

theorem get_set_self {H : AHeap} {l : Nat} {c d : AObj} (h : H[l]? = some c) : (H.set l d)[l]? = some d := by
  rw [List.getElem?_set_self (List.getElem?_eq_some_iff.1 h).1]
theorem set_set (H : AHeap) (l : Nat) (c d : AObj) : (H.set l c).set l d = H.set l d := List.set_set ..

theorem round_of {l : Nat} {R : ALoop} {a : List Value} {H1 : AHeap} {J : AHeap → Prop} {S : AExit → AHeap → Prop} {Q1 : Value → AHeap → Prop} (hm : P.follows .mixedOrders = true) (hlen : a.length = R.params.length) (h : Round P l R.assign R.body (assignParams R.env R.params a) H1 J S) (hl : H1[l]? = some (.loop R)) (hr : R.state = .ready) (hp : R.pending = none)
    (hJ : ∀ H c, J H → H[l]? = some (.loop R) ∨ True → J (H.set l c)) (hq : ∀ H', H'[l]? = some (.loop R) → J H' → Q1 (.bool true) H')
    (hs : ∀ H' x, x ≠ .normal → H'[l]? = some (.loop { R with state := .done, pending := some x }) → (∃ H3, S x H3 ∧ H' = H3.set l (.loop { R with state := .done, pending := some x })) → Q1 (.bool false) H') : ARound P l a H1 Q1 := by
  refine around_intro hm hl hlen (AWP.mono (h _ _ ⟨_, rfl⟩ hl) fun x env1 H2 ⟨e, h1, h2⟩ => ⟨e, R, h1, hr, AWP.mono h2 fun y env3 H3 ⟨h3, h4⟩ => ⟨_, h3, ?_⟩⟩)
  rcases h4 with ⟨rfl, h4⟩ | ⟨hn, h4⟩
  · have e1 : ({ ({ R with state := .busy } : ALoop) with state := .ready, pending := none } : ALoop) = R := by cases R; simp_all
    have e2 : (AExit.normal == AExit.normal) = true := rfl
    simp only [e2, if_true, e1]
    exact hq _ (get_set_self h3) (hJ _ _ h4 (.inr trivial))
  · have e2 : (y == AExit.normal) = false := by simp [hn]
    simp only [e2, Bool.false_eq_true, if_false]
    exact hs _ y hn (get_set_self h3) ⟨H3, h4, rfl⟩

theorem rangeEnd_n {l : Nat} {R : ALoop} {H' : AHeap} (hl : H'[l]? = some (.loop R)) (hr : R.state = .ready) (hp : R.pending = none) (h : ∀ c, Q .normal env (H'.set l c)) : RangeEnd l env Q H' :=
  ⟨R, hl, by rw [hr]; simp, by rw [hp]; simp, by rw [hp]; exact h _⟩
theorem rangeEnd_x {l : Nat} {R : ALoop} {x : AExit} {H' : AHeap} (hn : x ≠ .normal) (hl : H'[l]? = some (.loop { R with state := .done, pending := some x })) (h : ∀ c, Q x env (H'.set l c)) : RangeEnd l env Q H' :=
  ⟨_, hl, by simp, by simpa using hn, h _⟩

theorem awp_rangeA (hm : P.follows .mixedOrders = true) (hg : evalA env g = .func (.func f) ⟨xs⟩ ⟨ys⟩) (har : ∀ l, ar = some l → ∃ r, H[l]? = some (.loop r)) (hgen : GenA P f xs ys Fact items)
    (J : List (List Value) → AHeap → Prop) (S : AExit → AHeap → Prop) (hJ : ∀ rest H' c, J rest H' → J rest (H'.set H.length c)) (hS : ∀ x H' c, S x H' → S x (H'.set H.length c)) (hF : ∀ rest H', J rest H' → Fact H')
    (h0 : ∀ N, J items (H ++ N))
    (hbody : ∀ a rest H1, J (a :: rest) H1 → H.length < H1.length → a.length = ps.length ∧ Round P H.length assign body (assignParams env ps a) H1 (J rest) S)
    (hend : ∀ H', J [] H' → Q .normal env H') (hstop : ∀ x H', x ≠ .normal → S x H' → Q x env H') : AWP P ar (.rangeFunc g ps assign body) Q env H := by
  refine awp_rangeFunc hg har ?_
  show ACall P f _ (H ++ [.loop (recOf env ps assign body)]) _
  refine (hgen H.length (fun rest H' => J rest H' ∧ H'[H.length]? = some (.loop (recOf env ps assign body)))
    (fun H' => ∃ x, x ≠ .normal ∧ S x H' ∧ H'[H.length]? = some (.loop { recOf env ps assign body with state := .done, pending := some x })) _ (fun rest H' h => hF rest H' h.1) (fun a rest H1 ⟨h1, h2⟩ => ?_) ⟨h0 _, by simp⟩).mono fun _ H' h => ?_
  · refine round_of hm (hbody a rest H1 h1 (List.getElem?_eq_some_iff.1 h2).1).1 (hbody a rest H1 h1 (List.getElem?_eq_some_iff.1 h2).1).2 h2 rfl rfl (fun H' c h _ => hJ _ _ _ h) (fun H' h3 h4 => .inl ⟨rfl, h4, h3⟩) fun H' x hn h3 ⟨H3, h4, e⟩ => .inr ⟨rfl, x, hn, ?_, h3⟩
    rw [e]; exact hS _ _ _ h4
  · rcases h with ⟨h1, h2⟩ | ⟨x, hn, h1, h2⟩
    · exact rangeEnd_n h2 rfl rfl fun c => hend _ (hJ _ _ _ h1)
    · exact rangeEnd_x hn h2 fun c => hstop x _ hn (hS _ _ _ h1)

end

/-- But for k, what lay in the first heap lies in the second one. -/
def Keeps (k : Nat) (G H : AHeap) : Prop := G.length ≤ H.length ∧ ∀ i, i < G.length → i ≠ k → H[i]? = G[i]?
theorem Keeps.of_ext {k : Nat} {G H : AHeap} (h : Ext G H) : Keeps k G H := ⟨h.len, fun _ hi _ => h.get hi⟩
theorem Keeps.app {k : Nat} {G H : AHeap} (h : Keeps k G H) (N : AHeap) : Keeps k G (H ++ N) :=
  ⟨by have := h.1; simp; omega, fun i hi hk => by rw [List.getElem?_append_left (by have := h.1; omega)]; exact h.2 i hi hk⟩
theorem Keeps.set {k j : Nat} {G H : AHeap} (h : Keeps k G H) (hj : j = k ∨ G.length ≤ j) (c : AObj) : Keeps k G (H.set j c) :=
  ⟨by simpa using h.1, fun i hi hk => by rw [List.getElem?_set_ne (by omega)]; exact h.2 i hi hk⟩
theorem Keeps.get {k : Nat} {G H : AHeap} (h : Keeps k G H) {i : Nat} {c : AObj} (hi : G[i]? = some c) (hk : i ≠ k) : H[i]? = some c := by
  rw [h.2 i (List.getElem?_eq_some_iff.1 hi).1 hk]; exact hi
theorem ext_of_get {H0 H : AHeap} (hl : H0.length ≤ H.length) (h : ∀ i, i < H0.length → H[i]? = H0[i]?) : Ext H0 H := by
  refine ⟨H.drop H0.length, List.ext_getElem? fun i => ?_⟩
  by_cases hi : i < H0.length
  · rw [List.getElem?_append_left hi]; exact h i hi
  · rw [List.getElem?_append_right (by omega), List.getElem?_drop]
    congr 1; omega
theorem Keeps.ext {k : Nat} {H0 G H : AHeap} (h : Keeps k G H) (hx : Ext H0 G) (hk : H0.length ≤ k) : Ext H0 H :=
  ext_of_get (by have := hx.len; have := h.1; omega) fun i hi => by rw [h.2 i (by have := hx.len; omega) (by omega)]; exact hx.get hi
theorem Keeps.trans {k : Nat} {G H H' : AHeap} (h : Keeps k G H) (h' : Ext H H') : Keeps k G H' := by obtain ⟨N, rfl⟩ := h'; exact h.app N
theorem appH_at {H : AHeap} {v : Value} {sz : Nat} {vs : List Value} {i : Nat} (hi : i < H.length) (hv : v = .slice none 0 0 ∨ idOf v ≠ i) : (appH H v sz vs)[i]? = H[i]? := by
  unfold appH
  split
  · rename_i a n c
    rw [List.getElem?_append_left (by simpa using hi), List.getElem?_set_ne]
    rcases hv with h | h
    · cases h
    · exact h
  · rw [List.getElem?_append_left hi]
end Go.Lq
namespace Go.Lq
open Go
theorem Own.set_ne {H0 H : AHeap} {sz n : Nat} {vs : List Value} {v : Value} (h : Own H0 H sz n vs v) {j : Nat} (hj : n = 0 ∨ idOf v ≠ j) (c : AObj) : Own H0 (H.set j c) sz n vs v :=
  ⟨h.1, h.2.imp_right fun ⟨id, e, h1, h2, hc⟩ => ⟨id, e, h1, h2, by
    subst e
    rw [List.getElem?_set_ne (by rcases hj with h | h; omega; exact fun e => h (by simpa [idOf] using e.symm))]; exact hc⟩⟩
theorem Own.weaken {H0 G H : AHeap} {sz n : Nat} {vs : List Value} {v : Value} (h : Own G H sz n vs v) (hg : H0.length ≤ G.length) : Own H0 H sz n vs v :=
  ⟨h.1, h.2.imp_right fun ⟨id, e, h1, h2⟩ => ⟨id, e, by omega, h2⟩⟩
theorem OwnI.weaken {H0 G H : AHeap} {l : List Int} {v : Value} (h : OwnI G H l v) (hg : H0.length ≤ G.length) : OwnI H0 H l v := Own.weaken h hg
theorem OwnP.weaken {H0 G H : AHeap} {l : List (Int × Int)} {v : Value} (h : OwnP G H l v) (hg : H0.length ≤ G.length) : OwnP H0 H l v := Own.weaken h hg
theorem OwnI.ret_own {H0 H : AHeap} {l : List Int} (hx : H0.length ≤ H.length) : OwnI H0 (H ++ retN 1 l.length (l.map (.int .i64))) l (retV H l.length) := by
  refine ⟨by simp, ?_⟩
  unfold retV retN
  by_cases h0 : l.length = 0
  · exact .inl ⟨by rw [if_pos h0], h0⟩
  · exact .inr ⟨H.length, by rw [if_neg h0], hx, by omega, by rw [if_neg h0]; simp⟩
theorem OwnI.set_ne {H0 H : AHeap} {l : List Int} {v : Value} (h : OwnI H0 H l v) {j : Nat} (hj : l.length = 0 ∨ idOf v ≠ j) (c : AObj) : OwnI H0 (H.set j c) l v := Own.set_ne h hj c
theorem pushH_at {H : AHeap} {v : Value} {l : List Int} {x : Int} {i : Nat} {c : AObj} (h : H[i]? = some c) (hv : v = .slice none 0 0 ∨ idOf v ≠ i) : (pushH H v l x)[i]? = some c := by
  have hi := (List.getElem?_eq_some_iff.1 h).1
  unfold pushH
  rw [appH_at (by simp; omega) hv, List.getElem?_append_left hi]; exact h
theorem pushH_len {H : AHeap} {v : Value} {l : List Int} {x : Int} : (pushH H v l x).length = H.length + 2 := by unfold pushH; rw [appH_len]; simp
theorem OwnI.nil_or {H0 H : AHeap} {l : List Int} {v : Value} (h : OwnI H0 H l v) {i : Nat} (hi : l.length = 0 ∨ idOf v ≠ i) : v = .slice none 0 0 ∨ idOf v ≠ i := by
  rcases h.2 with ⟨rfl, _⟩ | ⟨id, rfl, _, h0, _⟩
  · exact .inl rfl
  · exact .inr (by rcases hi with h | h; omega; exact h)
theorem OwnI.shape {H0 H : AHeap} {l : List Int} {v : Value} (h : OwnI H0 H l v) : ∃ a n c, v = .slice a n c := by
  rcases h.2 with ⟨rfl, _⟩ | ⟨id, rfl, _⟩ <;> exact ⟨_, _, _, rfl⟩
theorem isAtom_sl {v : Value} (h : ∃ a n c, v = .slice a n c) : isAtom v = true := by obtain ⟨_, _, _, rfl⟩ := h; rfl
theorem cells_sl {v : Value} (h : ∃ a n c, v = .slice a n c) : v.cells = ⟨[v]⟩ := by obtain ⟨_, _, _, rfl⟩ := h; rfl
end Go.Lq

namespace Go.Lq
open Go

def mkSliceR (bytes : Nat) (zero : List Value) (l c : Value) (H : AHeap) : Option (Value × AHeap) :=
  match l, c with
  | .int .i64 a, .int .i64 b =>
    if 0 ≤ a ∧ a ≤ b ∧ roomOk bytes b.toNat = true ∧ zero.all isAtom = true ∧ zero.all constOk = true then
      some (.slice (some ⟨H.length, 0, none⟩) a.toNat (if b = 0 then 0 else if a = 0 then 2 else a.toNat), H ++ [.cells true zero.length (zeroRow zero (a.toNat * zero.length))])
    else none
  | _, _ => none
theorem r_mkSlice {ρ : Operand → Value} {H : AHeap} {bytes : Nat} {zero : List Value} {x y : Operand} : ropRun (.mkSlice bytes zero x y) ρ H = mkSliceR bytes zero (ρ x) (ρ y) H := rfl
attribute [go_sem] r_mkSlice
theorem zeroRow_one (z : Value) (n : Nat) : zeroRow [z] n = List.replicate n z := by
  unfold zeroRow
  refine List.ext_getElem (by simp) fun i h1 h2 => ?_
  simp [Nat.mod_one]
theorem mkSlice_zero {bytes : Nat} {z : Value} {n : Nat} {H : AHeap} (h0 : 0 < n) (hr : roomOk bytes n = true) (ha : isAtom z = true) (hc : constOk z = true) :
    mkSliceR bytes [z] (.int .i64 n) (.int .i64 n) H = some (.slice (some ⟨H.length, 0, none⟩) n n, H ++ [.cells true 1 (List.replicate n z)]) := by
  have e1 : (n : Int).toNat = n := by omega
  have e2 : ¬ (n : Int) = 0 := by omega
  unfold mkSliceR
  simp only [e1, e2, if_false, List.all_cons, List.all_nil, ha, hc, hr, Bool.and_true, and_true, Int.le_refl]
  rw [if_pos (by omega)]
  simp only [List.length_cons, List.length_nil, Nat.zero_add, Nat.mul_one, zeroRow_one]
theorem mkSlice_ints {n : Nat} {H : AHeap} (h0 : 0 < n) (hn : n ≤ 1000000000) :
    mkSliceR 8 [.int .i64 0] (.int .i64 n) (.int .i64 n) H = some (.slice (some ⟨H.length, 0, none⟩) n n, H ++ [.cells true 1 ((List.replicate n (0 : Int)).map (.int .i64))]) := by
  rw [mkSlice_zero h0 (roomOk_of (by omega) (by omega)) rfl rfl, List.map_replicate]
theorem getD_set {α : Type} {l : List α} {d x : α} {i j : Nat} (hi : i < l.length) : (l.set i x).getD j d = if j = i then x else l.getD j d := by
  rw [List.getD_eq_getElem?_getD, List.getElem?_set, List.getD_eq_getElem?_getD]
  by_cases h : i = j
  · subst h; simp [hi]
  · rw [if_neg h, if_neg (fun e => h e.symm)]

theorem set_self {α : Type} {l : List α} {i : Nat} {x : α} (h : l[i]? = some x) : l.set i x = l := by
  refine List.ext_getElem? fun j => ?_
  rw [List.getElem?_set]
  by_cases hij : i = j
  · subst hij; rw [if_pos rfl, h, if_pos (List.getElem?_eq_some_iff.1 h).1]
  · rw [if_neg hij]
theorem Ext.cell {H H' : AHeap} (h : Ext H H') {i : Nat} {c : AObj} (hc : H[i]? = some c) : H'[i]? = some c := (h.get (List.getElem?_eq_some_iff.1 hc).1).trans hc
theorem Ext.set_both {G H' : AHeap} {k : Nat} (hk : k < G.length) (h : Ext G H') (c' : AObj) : Ext (G.set k c') (H'.set k c') := by
  obtain ⟨N, rfl⟩ := h
  exact ⟨N, List.set_append_left _ _ hk⟩
end Go.Lq

namespace Go.Lq
open Go

def rowVs (k : Nat) (ll : List (List Int)) : List Value := (List.range ll.length).map fun i => .slice (some ⟨k + i, 0, none⟩) (ll.getD i []).length (ll.getD i []).length
def rowOs (ll : List (List Int)) : AHeap := ll.map fun l => .cells true 1 (l.map (.int .i64))
def retLV (H : AHeap) (ll : List (List Int)) : Value := if ll.length = 0 then .slice none 0 0 else .slice (some ⟨H.length + ll.length, 0, none⟩) ll.length ll.length
def retLN (H : AHeap) (ll : List (List Int)) : AHeap := if ll.length = 0 then [] else rowOs ll ++ [.cells true 1 (rowVs H.length ll)]

theorem rowOs_at {H N : AHeap} {ll : List (List Int)} {i : Nat} (hi : i < ll.length) : (H ++ (rowOs ll ++ N))[H.length + i]? = some (.cells true 1 ((ll.getD i []).map (.int .i64))) := by
  rw [List.getElem?_append_right (by omega), Nat.add_sub_cancel_left, List.getElem?_append_left (by simpa [rowOs] using hi), rowOs, List.getElem?_map, List.getElem?_eq_getElem hi, List.getD_eq_getElem?_getD, List.getElem?_eq_getElem hi]
  rfl
theorem rowOs_last {H : AHeap} {ll : List (List Int)} {c : AObj} : (H ++ (rowOs ll ++ [c]))[H.length + ll.length]? = some c := by
  have : (rowOs ll).length = ll.length := by simp [rowOs]
  rw [List.getElem?_append_right (by omega), Nat.add_sub_cancel_left, List.getElem?_append_right (by omega), this, Nat.sub_self]; rfl
theorem OwnL.ret {H0 H : AHeap} {ll : List (List Int)} (hx : H0.length ≤ H.length) : OwnL H0 (H ++ retLN H ll) ll (retLV H ll) := by
  unfold retLN retLV
  by_cases h0 : ll.length = 0
  · obtain rfl := List.length_eq_zero_iff.1 h0
    exact OwnL.nil _ _
  rw [if_neg h0, if_neg h0]
  have hv : ∀ i, i < ll.length → (rowVs H.length ll).getD i undef = .slice (some ⟨H.length + i, 0, none⟩) (ll.getD i []).length (ll.getD i []).length := fun i hi => by
    unfold rowVs
    rw [List.getD_eq_getElem?_getD, List.getElem?_map, List.getElem?_range hi]; rfl
  refine ⟨rowVs H.length ll, ⟨by simp [rowVs], .inr ⟨H.length + ll.length, rfl, by omega, by omega, rowOs_last⟩⟩, fun i hi => ⟨H.length + i, hv i hi, ?_, by omega, rowOs_at hi⟩, fun i j hij hj => ?_⟩
  · show H.length + ll.length ≠ H.length + i
    omega
  · rw [hv i (by omega), hv j hj]
    show H.length + i ≠ H.length + j
    omega

section
variable {P : Program} {g : FuncId} {args : List Value} {H : AHeap} {ll : List (List Int)} {f : Value → Value}
theorem ACall.tidyL (hf : Wraps f) (h : ACall P g args H fun v1 H1 => ∃ s, v1 = f s ∧ Ext H H1 ∧ OwnL H H1 ll s) :
    ACall P g args H fun v1 H1 => v1 = f (retLV H ll) ∧ H1 = H ++ retLN H ll :=
  h.rename fun v1 H1 hh => by
    obtain ⟨sv, rfl, ⟨M, rfl⟩, vs, ho, hr, hd⟩ := hh
    rcases ho.2 with ⟨rfl, h0⟩ | ⟨idS, rfl, g1, g2, hx⟩
    · refine ⟨_, H, fun i => i, ⟨Nat.le_refl _, fun _ _ => rfl, fun _ _ _ _ e => e, fun i hlt => .inl ⟨hlt, List.getElem?_append_left hlt, rfl⟩⟩, hf _ _ _ _ .sliceNil, by simp [retLV, h0], by simp [retLN, h0]⟩
    · have hvl : vs.length = ll.length := by have := ho.1; omega
      let s : Nat → Nat := fun i => if i < H.length then i else if i < H.length + ll.length then idOf (vs.getD (i - H.length) undef) else idS
      have srow : ∀ i, i < ll.length → s (H.length + i) = idOf (vs.getD i undef) := fun i hi => by
        simp only [s]
        rw [if_neg (by omega), if_pos (by omega), Nat.add_sub_cancel_left]
      have slast : s (H.length + ll.length) = idS := by
        simp only [s]
        rw [if_neg (by omega), if_neg (by omega)]
      have slow : ∀ i, i < H.length → s i = i := fun i hi => by simp only [s]; rw [if_pos hi]
      have hrow : ∀ i, i < ll.length → vs.getD i undef = .slice (some ⟨idOf (vs.getD i undef), 0, none⟩) (ll.getD i []).length (ll.getD i []).length ∧ idS ≠ idOf (vs.getD i undef) ∧ H.length ≤ idOf (vs.getD i undef) ∧
          (H ++ M)[idOf (vs.getD i undef)]? = some (.cells true 1 ((ll.getD i []).map (.int .i64))) := fun i hi => by
        obtain ⟨id, e, h1, h2, h3⟩ := hr i hi
        rw [e]
        exact ⟨rfl, h1, h2, h3⟩
      have e0 : retLN H ll = rowOs ll ++ [.cells true 1 (rowVs H.length ll)] := by unfold retLN; rw [if_neg (by omega)]
      have hlen : (H ++ retLN H ll).length = H.length + ll.length + 1 := by rw [e0]; simp [rowOs]; omega
      refine ⟨f (retLV H ll), H ++ retLN H ll, s, ⟨by rw [hlen]; omega, slow, fun i j hi hj e => ?_, fun i hi => ?_⟩, hf _ _ _ _ ?_, rfl, rfl⟩
      · rw [hlen] at hi hj
        have key : ∀ i, i < H.length + ll.length + 1 → (i < H.length ∧ s i = i) ∨ (∃ a, a < ll.length ∧ i = H.length + a ∧ s i = idOf (vs.getD a undef)) ∨ (i = H.length + ll.length ∧ s i = idS) := fun i hi => by
          by_cases h1 : i < H.length
          · exact .inl ⟨h1, slow i h1⟩
          · by_cases h2 : i < H.length + ll.length
            · refine .inr (.inl ⟨i - H.length, by omega, by omega, ?_⟩)
              have := srow (i - H.length) (by omega)
              rwa [show H.length + (i - H.length) = i by omega] at this
            · have : i = H.length + ll.length := by omega
              exact .inr (.inr ⟨this, by rw [this]; exact slast⟩)
        rcases key i hi with ⟨i1, i2⟩ | ⟨a, a1, a2, a3⟩ | ⟨i1, i2⟩ <;> rcases key j hj with ⟨j1, j2⟩ | ⟨b, b1, b2, b3⟩ | ⟨j1, j2⟩
        · omega
        · have := (hrow b b1).2.2.1; omega
        · omega
        · have := (hrow a a1).2.2.1; omega
        · by_cases hab : a = b
          · omega
          · rcases Nat.lt_or_gt_of_ne hab with hl | hl
            · exact absurd (by rw [← a3, ← b3, e]) (hd a b hl b1)
            · exact absurd (by rw [← a3, ← b3, e]) (hd b a hl a1)
        · have := (hrow a a1).2.1; omega
        · omega
        · have := (hrow b b1).2.1; omega
        · omega
      · rw [hlen] at hi
        by_cases h1 : i < H.length
        · exact .inl ⟨h1, List.getElem?_append_left h1, List.getElem?_append_left h1⟩
        · refine .inr ?_
          by_cases h2 : i < H.length + ll.length
          · obtain ⟨a, rfl⟩ : ∃ a, i = H.length + a := ⟨i - H.length, by omega⟩
            have ha : a < ll.length := by omega
            rw [srow a ha, (hrow a ha).2.2.2, e0, rowOs_at ha]
            exact ⟨rfl, rfl, rfl, fun k u u' h1 h2 => by rw [h1] at h2; cases h2; exact (closed_ints _ u (List.mem_of_getElem? h1)).ren _ _⟩
          · obtain rfl : i = H.length + ll.length := by omega
            rw [slast, hx, e0, rowOs_last]
            refine ⟨rfl, rfl, by simp [rowVs, hvl], fun k u u' h1 h2 => ?_⟩
            have hk : k < ll.length := by have := (List.getElem?_eq_some_iff.1 h2).1; omega
            have e1 : u = .slice (some ⟨H.length + k, 0, none⟩) (ll.getD k []).length (ll.getD k []).length := by
              unfold rowVs at h1
              rw [List.getElem?_map, List.getElem?_range hk] at h1
              simpa using h1.symm
            have e2 : u' = vs.getD k undef := by rw [List.getD_eq_getElem?_getD, h2]; rfl
            rw [e1, e2, (hrow k hk).1]
            have := Ren.slice (s := s) (n := H.length + ll.length + 1) (id := H.length + k) (off := 0) (len := (ll.getD k []).length) (c := (ll.getD k []).length) (by omega)
            rw [srow k hk] at this
            rw [← e0, hlen]
            exact this
      · rw [hlen]
        have := Ren.slice (s := s) (n := H.length + ll.length + 1) (id := H.length + ll.length) (off := 0) (len := ll.length) (c := ll.length) (by omega)
        rw [slast] at this
        unfold retLV
        rw [if_neg (by omega)]
        exact this

theorem wraps_agg2 {x : Value} (hx : Closed x) : Wraps fun s => .agg ⟨[s, x]⟩ := fun s n a b h => .agg rfl fun i u u' h1 h2 => by
  match i with
  | 0 => simp at h1 h2; subst h1; subst h2; exact h
  | 1 => simp at h1 h2; subst h1; subst h2; exact hx.ren _ _
  | i + 2 => simp at h1
end
end Go.Lq

namespace Go.Lq
open Go

theorem getD_set_ne {α : Type} {l : List α} {d x : α} {i j : Nat} (h : i ≠ j) : (l.set i x).getD j d = l.getD j d := by
  rw [List.getD_eq_getElem?_getD, List.getElem?_set_ne h, List.getD_eq_getElem?_getD]
theorem getD_set_eq {α : Type} {l : List α} {d x : α} {i : Nat} (h : i < l.length) : (l.set i x).getD i d = x := by
  rw [getD_set h, if_pos rfl]
/-- A region by itself: what is wanted of it behind it. -/
theorem awp_mid {P : Program} {ar : Option Nat} {R y : RCode} {Qy Qz : AExit → Env → AHeap → Prop} {env : Env} {H : AHeap} (m : List Bool) (I : Env → AHeap → Prop)
    (h1 : AWP P ar R (fun x e' H' => x = .normal ∧ I (forget m e') H') env H) (h2 : ∀ e H, I e H → AWP P ar y Qy e H) : AWP P ar R (Seq (AWP P ar y Qy) Qz) env H :=
  AWP.mono h1 fun x e' H' ⟨hx, hI⟩ => by subst hx; exact awp_forget m (h2 _ _ hI)

/-- The object k holds rows, at places of their own behind it. -/
structure OwnR (k : Nat) (H : AHeap) (ll : List (List Int)) (vs : List Value) : Prop where
  own : H[k]? = some (.cells true 1 vs)
  len : vs.length = ll.length
  row : ∀ i, i < ll.length → OwnI [] H (ll.getD i []) (vs.getD i undef)
  far : ∀ i, i < ll.length → 0 < (ll.getD i []).length → k < idOf (vs.getD i undef)
  apart : ∀ i j, i ≠ j → i < ll.length → j < ll.length → 0 < (ll.getD i []).length → 0 < (ll.getD j []).length → idOf (vs.getD i undef) ≠ idOf (vs.getD j undef)

section
variable {k : Nat} {H G : AHeap} {ll : List (List Int)} {vs : List Value}

/-- An object that is none of the rows, nor that of the rows. -/
def Aside (k : Nat) (ll : List (List Int)) (vs : List Value) (j : Nat) : Prop := j ≠ k ∧ ∀ i, i < ll.length → 0 < (ll.getD i []).length → idOf (vs.getD i undef) ≠ j

theorem OwnI.same {H0 H H' : AHeap} {l : List Int} {v : Value} (h : OwnI H0 H l v) (hs : 0 < l.length → H'[idOf v]? = H[idOf v]?) : OwnI H0 H' l v := by
  refine ⟨h.1, h.2.imp_right fun ⟨id, e, h1, h2, hc⟩ => ⟨id, e, h1, h2, ?_⟩⟩
  subst e
  have := hs h2
  simp only [idOf] at this
  rw [this]; exact hc
theorem OwnR.lt (h : OwnR k H ll vs) : k < H.length := (List.getElem?_eq_some_iff.1 h.own).1
theorem OwnR.idlt (h : OwnR k H ll vs) {i : Nat} (hi : i < ll.length) (hl : 0 < (ll.getD i []).length) : idOf (vs.getD i undef) < H.length := ((h.row i hi).id_lt hl).2
theorem OwnR.app (h : OwnR k H ll vs) (N : AHeap) : OwnR k (H ++ N) ll vs := ⟨at_app h.own, h.len, fun i hi => (h.row i hi).app N, h.far, h.apart⟩
theorem OwnR.set (h : OwnR k H ll vs) {j : Nat} (hj : Aside k ll vs j) (c : AObj) : OwnR k (H.set j c) ll vs :=
  ⟨by rw [List.getElem?_set_ne hj.1]; exact h.own, h.len, fun i hi => (h.row i hi).same fun hl => by rw [List.getElem?_set_ne (Ne.symm (hj.2 i hi hl))], h.far, h.apart⟩
/-- The slice of the rows. -/
theorem OwnR.sl (h : OwnR k H ll vs) {n c : Nat} (hn : n = ll.length) : Sl H 1 n vs (.slice (some ⟨k, 0, none⟩) n c) := Sl.of h.own (by rw [h.len, hn, Nat.mul_one])
theorem OwnR.lists (h : OwnR k H ll vs) {n c : Nat} (hn : n = ll.length) : Lists H ll vs (.slice (some ⟨k, 0, none⟩) n c) := by
  subst hn
  exact ⟨h.sl rfl, fun i hi => (h.row i hi).ints⟩
theorem store_cell {k e : Nat} {H : AHeap} {vs : List Value} {v : Value} {i n c : Nat} (h : H[k]? = some (.cells true e vs)) (hi : i < vs.length) (ha : isAtom v = true) (hc : v.cells = ⟨[v]⟩) :
    storeR 1 (addrOf (.slice (some ⟨k, 0, none⟩) n c) i) v H = some (undef, H.set k (.cells true e (vs.set i v))) := by
  have e3 : ([v] : List Value).all isAtom = true := by simp [ha]
  have e4 : (v.cells).toList = [v] := by rw [hc]
  have e5 : (v.cells).size = 1 := by rw [hc]; rfl
  simp only [addrOf, Nat.zero_add, storeR, e5, if_true, storeAt, h, e4, e3, and_true, List.length_cons, List.length_nil]
  rw [if_pos (by omega), setCells_one _ _ _ hi]
  rfl

/-- A number appended to a row. -/
theorem OwnR.push (h : OwnR k H ll vs) {i : Nat} (hi : i < ll.length) (hb : (ll.getD i []).length < 1000000000) (x : Int) :
    ∃ v2 H2, appendA 1 8 (H ++ [.cells true 1 [.int .i64 x]]) (vs.getD i undef) (.slice (some ⟨H.length, 0, none⟩) 1 1) = some (v2, H2) ∧
      (∀ n c, storeR 1 (addrOf (.slice (some ⟨k, 0, none⟩) n c) i) v2 H2 = some (undef, H2.set k (.cells true 1 (vs.set i v2)))) ∧
      OwnR k (H2.set k (.cells true 1 (vs.set i v2))) (ll.set i (ll.getD i [] ++ [x])) (vs.set i v2) ∧ H.length ≤ idOf v2 ∧
      ∀ j c, Aside k ll vs j → H[j]? = some c → (H2.set k (.cells true 1 (vs.set i v2)))[j]? = some c := by
  have hrow := h.row i hi
  have hvi : i < vs.length := by rw [h.len]; exact hi
  have hne : ∀ j, (0 < (ll.getD i []).length → idOf (vs.getD i undef) ≠ j) → vs.getD i undef = .slice none 0 0 ∨ idOf (vs.getD i undef) ≠ j := fun j hj => hrow.nil_or (by
    by_cases h0 : (ll.getD i []).length = 0
    · exact .inl h0
    · exact .inr (hj (by omega)))
  have hself : (pushH H (vs.getD i undef) (ll.getD i []) x)[k]? = some (.cells true 1 vs) := pushH_at h.own (hne k fun hl => by have := h.far i hi hl; omega)
  have hpush := hrow.pushed ⟨H, by simp⟩ x
  refine ⟨pushV H (ll.getD i []).length, pushH H (vs.getD i undef) (ll.getD i []) x, hrow.push hb x, fun n c => store_cell hself hvi rfl rfl, ⟨get_set_self hself, by simp [h.len], fun j hj => ?_, fun j hj hl => ?_, fun a b hab ha hb' ha0 hb0 => ?_⟩, ?_, fun j c hj hc => ?_⟩
  · simp only [List.length_set] at hj
    by_cases hji : j = i
    · subst hji
      rw [getD_set_eq hi, getD_set_eq hvi]
      refine hpush.set_ne (.inr ?_) _
      show H.length + 1 ≠ k
      have := h.lt; omega
    · rw [getD_set_ne (Ne.symm hji), getD_set_ne (Ne.symm hji)]
      refine (h.row j hj).same fun hl => ?_
      have hjl := h.idlt hj hl
      have hjk := h.far j hj hl
      rw [List.getElem?_set_ne (by omega)]
      unfold pushH
      rw [appH_at (by simp only [List.length_append]; omega) (hne _ fun hl2 => h.apart i j (Ne.symm hji) hi hj hl2 hl), List.getElem?_append_left hjl]
  · simp only [List.length_set] at hj
    by_cases hji : j = i
    · subst hji
      rw [getD_set_eq hvi]
      show k < H.length + 1
      have := h.lt; omega
    · rw [getD_set_ne (Ne.symm hji)] at hl ⊢
      exact h.far j hj hl
  · simp only [List.length_set] at ha hb'
    by_cases hai : a = i
    · subst hai
      rw [getD_set_eq hvi, getD_set_ne hab]
      rw [getD_set_ne hab] at hb0
      have := h.idlt hb' hb0
      show H.length + 1 ≠ _
      omega
    · by_cases hbi : b = i
      · subst hbi
        rw [getD_set_eq hvi, getD_set_ne (Ne.symm hai)]
        rw [getD_set_ne (Ne.symm hai)] at ha0
        have := h.idlt ha ha0
        show _ ≠ H.length + 1
        omega
      · rw [getD_set_ne (Ne.symm hai), getD_set_ne (Ne.symm hbi)]
        rw [getD_set_ne (Ne.symm hai)] at ha0
        rw [getD_set_ne (Ne.symm hbi)] at hb0
        exact h.apart a b hab ha hb' ha0 hb0
  · show H.length ≤ H.length + 1
    omega
  · rw [List.getElem?_set_ne (Ne.symm hj.1)]
    exact pushH_at hc (hne j fun hl => hj.2 i hi hl)

/-- A number stored into a row. -/
theorem OwnR.setCell (h : OwnR k H ll vs) {i c : Nat} (hi : i < ll.length) (hc : c < (ll.getD i []).length) (x : Int) :
    storeR 1 (addrOf (vs.getD i undef) c) (.int .i64 x) H = some (undef, setH H (vs.getD i undef) ((ll.getD i []).set c x)) ∧
      OwnR k (setH H (vs.getD i undef) ((ll.getD i []).set c x)) (ll.set i ((ll.getD i []).set c x)) vs ∧
      ∀ j d, Aside k ll vs j → H[j]? = some d → (setH H (vs.getD i undef) ((ll.getD i []).set c x))[j]? = some d := by
  have hrow := h.row i hi
  have hl : 0 < (ll.getD i []).length := by omega
  have hlen : ∀ j, ((ll.set i ((ll.getD i []).set c x)).getD j []).length = (ll.getD j []).length := fun j => by
    by_cases hji : j = i
    · subst hji; rw [getD_set_eq hi]; simp
    · rw [getD_set_ne (Ne.symm hji)]
  refine ⟨hrow.store hc x, ⟨?_, by simp [h.len], fun j hj => ?_, fun j hj hl => ?_, fun a b hab ha hb ha0 hb0 => ?_⟩, fun j d hj hd => ?_⟩
  · rw [setH_at (by have := h.far i hi hl; omega)]; exact h.own
  · simp only [List.length_set] at hj
    by_cases hji : j = i
    · subst hji
      rw [getD_set_eq hi]
      exact hrow.stored _ (by simp)
    · rw [getD_set_ne (Ne.symm hji)]
      exact (h.row j hj).same fun hl2 => setH_at (h.apart i j (Ne.symm hji) hi hj hl hl2)
  · rw [hlen] at hl
    exact h.far j (by simpa using hj) hl
  · rw [hlen] at ha0 hb0
    exact h.apart a b hab (by simpa using ha) (by simpa using hb) ha0 hb0
  · rw [setH_at (hj.2 i hi hl)]; exact hd

/-- A row put in its place. -/
theorem OwnR.setRow (h : OwnR k H ll vs) {i : Nat} (hi : i < ll.length) {l : List Int} {v : Value} (hv : OwnI [] H l v) (hk : 0 < l.length → k < idOf v)
    (ha : ∀ j, j < ll.length → j ≠ i → 0 < (ll.getD j []).length → 0 < l.length → idOf (vs.getD j undef) ≠ idOf v) :
    (∀ n c, storeR 1 (addrOf (.slice (some ⟨k, 0, none⟩) n c) i) v H = some (undef, H.set k (.cells true 1 (vs.set i v)))) ∧ OwnR k (H.set k (.cells true 1 (vs.set i v))) (ll.set i l) (vs.set i v) := by
  have hvi : i < vs.length := by rw [h.len]; exact hi
  refine ⟨fun n c => store_cell h.own hvi (isAtom_sl hv.shape) (cells_sl hv.shape), get_set_self h.own, by simp [h.len], fun j hj => ?_, fun j hj hl => ?_, fun a b hab ha' hb ha0 hb0 => ?_⟩
  · simp only [List.length_set] at hj
    by_cases hji : j = i
    · subst hji
      rw [getD_set_eq hi, getD_set_eq hvi]
      refine hv.set_ne ?_ _
      by_cases h0 : l.length = 0
      · exact .inl h0
      · exact .inr (by have := hk (by omega); omega)
    · rw [getD_set_ne (Ne.symm hji), getD_set_ne (Ne.symm hji)]
      exact (h.row j hj).same fun hl => by rw [List.getElem?_set_ne (by have := h.far j hj hl; omega)]
  · simp only [List.length_set] at hj
    by_cases hji : j = i
    · subst hji
      rw [getD_set_eq hi] at hl
      rw [getD_set_eq hvi]
      exact hk hl
    · rw [getD_set_ne (Ne.symm hji)] at hl ⊢
      exact h.far j hj hl
  · simp only [List.length_set] at ha' hb
    by_cases hai : a = i
    · subst hai
      rw [getD_set_eq hvi, getD_set_ne hab]
      rw [getD_set_eq hi] at ha0
      rw [getD_set_ne hab] at hb0
      exact Ne.symm (ha b hb (Ne.symm hab) hb0 ha0)
    · by_cases hbi : b = i
      · subst hbi
        rw [getD_set_eq hvi, getD_set_ne (Ne.symm hai)]
        rw [getD_set_ne (Ne.symm hai)] at ha0
        rw [getD_set_eq hi] at hb0
        exact ha a ha' hab ha0 hb0
      · rw [getD_set_ne (Ne.symm hai), getD_set_ne (Ne.symm hbi)]
        rw [getD_set_ne (Ne.symm hai)] at ha0
        rw [getD_set_ne (Ne.symm hbi)] at hb0
        exact h.apart a b hab ha' hb ha0 hb0

theorem OwnR.low (h : OwnR k H ll vs) {j : Nat} (hj : j < k) : Aside k ll vs j := ⟨by omega, fun i hi hl => by have := h.far i hi hl; omega⟩
/-- What lay there before is left. -/
theorem OwnR.keep {H' : AHeap} (h : OwnR k H ll vs) (hx : Ext G H) (hk : G.length ≤ k) (hl : G.length ≤ H'.length) (hs : ∀ j c, Aside k ll vs j → H[j]? = some c → H'[j]? = some c) : Ext G H' :=
  ext_of_get hl fun i hi => by
    rw [← hx.get hi]
    have hlt : i < H.length := by have := hx.len; omega
    rw [List.getElem?_eq_getElem hlt]
    exact hs i _ (h.low (by omega)) (List.getElem?_eq_getElem hlt)
/-- Rows that are not empty. -/
theorem OwnR.ownL {H0 : AHeap} (h : OwnR k H ll vs) (hk : H0.length ≤ k) (h0 : 0 < ll.length) (hl : ∀ i, i < ll.length → 0 < (ll.getD i []).length) : OwnL H0 H ll (.slice (some ⟨k, 0, none⟩) ll.length ll.length) := by
  refine ⟨vs, ⟨by rw [h.len, Nat.mul_one], .inr ⟨k, rfl, hk, h0, h.own⟩⟩, fun i hi => ?_, fun i j hij hj => h.apart i j (by omega) (by omega) hj (hl i (by omega)) (hl j hj)⟩
  have hr := h.row i hi
  have hf := h.far i hi (hl i hi)
  rcases hr.2 with ⟨_, h1⟩ | ⟨id, e, _, h2, hc⟩
  · have := hl i hi; omega
  · rw [e] at hf
    simp only [idOf] at hf
    exact ⟨id, e, by show k ≠ id; omega, by omega, hc⟩
end
end Go.Lq
namespace Go.Lq
open Go
section
variable {H0 H B : AHeap} {ll : List (List Int)} {l : List Int} {v w : Value}
theorem OwnL.app (h : OwnL H0 H ll v) (N : AHeap) : OwnL H0 (H ++ N) ll v := by
  obtain ⟨vs, ho, hr, hd⟩ := h
  exact ⟨vs, ho.app N, fun i hi => by obtain ⟨id, e, h1, h2, h3⟩ := hr i hi; exact ⟨id, e, h1, h2, at_app h3⟩, hd⟩
theorem OwnL.shape (h : OwnL H0 H ll v) : ∃ a n c, v = .slice a n c := by
  obtain ⟨_, ho, _⟩ := h
  rcases ho.2 with ⟨rfl, _⟩ | ⟨id, rfl, _⟩ <;> exact ⟨_, _, _, rfl⟩
/-- A row of the call's own, put behind the others. -/
theorem OwnL.pushRow (h : OwnL H0 B ll v) (hx0 : Ext H0 B) (hx : Ext B H) (hr : OwnI B H l w) (hl : 0 < l.length) (hb : ll.length < 1000000000) :
    ∃ v' H', appendA 1 24 (H ++ [.cells true 1 [w]]) v (.slice (some ⟨H.length, 0, none⟩) 1 1) = some (v', H') ∧ OwnL H0 H' (ll ++ [l]) v' ∧ Ext H0 H' := by
  obtain ⟨vs, ho, hrow, hd⟩ := h
  have hBl : ∀ {id : Nat} {c : AObj}, B[id]? = some c → id < B.length := fun h => (List.getElem?_eq_some_iff.1 h).1
  obtain ⟨idw, rfl, hwge, hwc⟩ : ∃ id, w = .slice (some ⟨id, 0, none⟩) l.length l.length ∧ B.length ≤ id ∧ H[id]? = some (.cells true 1 (l.map (.int .i64))) := by
    rcases hr.2 with ⟨_, h0⟩ | ⟨id, e, h1, _, hc⟩
    · omega
    · exact ⟨id, e, h1, hc⟩
  have hoH : Own H0 H 1 ll.length vs v := by obtain ⟨N, rfl⟩ := hx; exact ho.app N
  generalize hG : H ++ [AObj.cells true 1 [.slice (some ⟨idw, 0, none⟩) l.length l.length]] = G
  have hoG : Own H0 G 1 ll.length vs v := by rw [← hG]; exact hoH.app _
  have hxG : Ext H0 G := by rw [← hG]; exact (hx0.trans hx).app _
  have hxBG : Ext B G := by rw [← hG]; exact hx.app _
  have hGl : G.length = H.length + 1 := by rw [← hG]; simp
  have hlen := hx.len
  have hlen0 := hx0.len
  have hidw : idw < H.length := (List.getElem?_eq_some_iff.1 hwc).1
  have hw : Sl G 1 1 [.slice (some ⟨idw, 0, none⟩) l.length l.length] (.slice (some ⟨H.length, 0, none⟩) 1 1) := by rw [← hG]; exact Sl.last rfl 1
  have happ := Own.append (bytes := 24) hoG hw (by omega) rfl (roomOk_of (by omega) (by omega))
  have hvl : vs.length = ll.length := by have := ho.1; omega
  have keep : ∀ (id : Nat) (c : AObj), (v = .slice none 0 0 ∨ idOf v ≠ id) → G[id]? = some c → (appH G v 1 (vs ++ [.slice (some ⟨idw, 0, none⟩) l.length l.length]))[id]? = some c := fun id c hne hc => by
    rw [appH_at (List.getElem?_eq_some_iff.1 hc).1 hne]; exact hc
  have hvB : v = .slice none 0 0 ∨ idOf v < B.length := by
    rcases ho.2 with ⟨rfl, _⟩ | ⟨id0, rfl, _, _, hc⟩
    · exact .inl rfl
    · exact .inr (hBl hc)
  refine ⟨_, _, happ, ⟨vs ++ [.slice (some ⟨idw, 0, none⟩) l.length l.length], ?_, fun i hi => ?_, fun i j hij hj => ?_⟩, Own.ext hoG hxG⟩
  · have := Own.appended hoG (m := 1) (cs := [.slice (some ⟨idw, 0, none⟩) l.length l.length]) rfl (by omega) (by omega)
    simpa using this
  · by_cases hil : i < ll.length
    · obtain ⟨id, e, hne, hge, hc⟩ := hrow i hil
      refine ⟨id, ?_, ?_, hge, ?_⟩
      · rw [getD_append_lt (by omega), getD_append_lt hil]; exact e
      · show G.length ≠ id
        have := hBl hc; omega
      · rw [getD_append_lt hil]
        exact keep id _ (.inr hne) (hxBG.cell hc)
    · have hi' : i = ll.length := by simp at hi; omega
      subst hi'
      refine ⟨idw, ?_, ?_, by omega, ?_⟩
      · rw [getD_append_last, ← hvl, getD_append_last]
      · show G.length ≠ idw
        omega
      · rw [getD_append_last]
        refine keep idw _ (hvB.imp_right fun h => by omega) ?_
        rw [← hG]; exact at_app hwc
  · have hj' : j ≤ ll.length := by simp at hj; omega
    have hil : i < ll.length := by omega
    rw [getD_append_lt (by omega)]
    by_cases hjl : j < ll.length
    · rw [getD_append_lt (by omega)]
      exact hd i j hij hjl
    · have : j = vs.length := by omega
      subst this
      rw [getD_append_last]
      obtain ⟨id, e, hne, hge, hc⟩ := hrow i hil
      have := hBl hc
      rw [e]
      show id ≠ idw
      omega
end
end Go.Lq
namespace Go.Lq
open Go
theorem closed_list {l : List Value} (h : ∀ v ∈ l, Closed v) : ∀ (i : Nat) v, (⟨l⟩ : Array Value)[i]? = some v → Closed v := fun i v hv => h v (List.mem_of_getElem? (by simpa using hv))
theorem closed_two (a b : Int) : Closed (.tuple #[.int .i64 a, .int .i64 b]) := .tuple _ (closed_list (l := [.int .i64 a, .int .i64 b]) fun v hv => by
  simp only [List.mem_cons, List.not_mem_nil, or_false] at hv
  rcases hv with rfl | rfl <;> exact .int _ _)
end Go.Lq
namespace Go.Lq
open Go
section
variable {P : Program}
theorem AOp.mono {r : ROp} {env : Env} {H : AHeap} {K K' : Value → AHeap → Prop} (h : AOp P r env H K) (hk : ∀ v H', K v H' → K' v H') : AOp P r env H K' := by
  unfold AOp at *
  split at h
  · exact h.mono hk
  · obtain ⟨v, H', h1, h2⟩ := h; exact ⟨v, H', h1, hk _ _ h2⟩
theorem AOps.mono {K K' : Env → AHeap → Prop} (hk : ∀ e H, K e H → K' e H) : ∀ {l : List ROper} {e : Env} {H : AHeap}, AOps P l K e H → AOps P l K' e H
  | [], e, H, h => hk _ _ h
  | o :: l, e, H, ⟨b, h1, h2, h3⟩ => ⟨b, h1, fun hb => (h2 hb).mono fun v H' h => AOps.mono hk h, fun hb => AOps.mono hk (h3 hb)⟩
theorem ADraw.mono {K K' : Env → AHeap → Prop} (hk : ∀ e H, K e H → K' e H) : ∀ {l : List (ROper × Bool)} {B : AHeap} {e : Env} {H : AHeap}, ADraw P l B K e H → ADraw P l B K' e H
  | [], B, e, H, h => hk _ _ h
  | (o, fr) :: l, B, e, H, ⟨b, h1, h2, h3⟩ => ⟨b, h1, fun hb => by obtain ⟨v, H', h4, h5⟩ := h2 hb; exact ⟨v, H', h4, ADraw.mono hk h5⟩, fun hb => ADraw.mono hk (h3 hb)⟩
/-- The rest of a region by itself. -/
theorem aops_mid {ar : Option Nat} {l : List ROper} {y : RCode} {Qy Qz : AExit → Env → AHeap → Prop} {env : Env} {H : AHeap} (m : List Bool) (I : Env → AHeap → Prop)
    (h1 : AOps P l (fun e' H' => I (forget m e') H') env H) (h2 : ∀ e H, I e H → AWP P ar y Qy e H) : AOps P l (Seq (AWP P ar y Qy) Qz .normal) env H :=
  AOps.mono (fun e' H' hI => awp_forget m (h2 _ _ hI)) h1
end
end Go.Lq

namespace Go.Lq
open Go

section
variable {P : Program} {H : AHeap}
end
end Go.Lq
namespace Go.Lq
open Go
/-- A record of a slice of slices of numbers and a number. -/
theorem RepA.task {P : Program} {H : AHeap} {t e e2 : TypeId} {v : Value} {fs : Array Field} {f0 f1 : Field} (ht : P.underlying t = some (.struct fs)) (hct : P.cellsOf t = 2) (h0 : fs[0]? = some f0) (h1 : fs[1]? = some f1) (o0 : f0.offset = 0) (o1 : f1.offset = 1)
    (c0 : P.cellsOf f0.type = 1) (c1 : P.cellsOf f1.type = 1) (ht0 : P.underlying f0.type = some (.slice e)) (ht1 : P.underlying f1.type = some (.int .i64)) (he : P.underlying e = some (.slice e2)) (he2 : P.underlying e2 = some (.int .i64)) (hc : P.cellsOf e = 1) (hc2 : P.cellsOf e2 = 1) (h : RepA P H t v) :
    ∃ s ll vs b, v = .agg ⟨[s, .int .i64 b]⟩ ∧ Lists H ll vs s ∧ ll.length ≤ maxLen ∧ ∀ i, i < ll.length → (ll.getD i []).length ≤ maxLen ∧ ∀ n ∈ ll.getD i [], InI64 n := by
  obtain ⟨acs, rfl, hr⟩ := h.struct ht
  obtain ⟨hl, hf⟩ := hr.struct_inv ht
  rw [hct] at hl
  have g0 := hf 0 f0 h0
  have g1 := hf 1 f1 h1
  match acs, hl with
  | [s, x], _ =>
    rw [o0, c0] at g0
    rw [o1, c1] at g1
    simp only [List.drop_zero, List.take_succ_cons, List.take_zero, List.drop_succ_cons] at g0 g1
    obtain ⟨b, e, _⟩ := g1.int_inv ht1
    simp only [List.cons.injEq, and_true] at e
    subst e
    obtain ⟨ll, vs, h2⟩ := (RepA.of_slice ht0 g0).lists ht0 he he2 hc hc2
    exact ⟨s, ll, vs, b, rfl, h2⟩
end Go.Lq
namespace Go.Lq
open Go
end Go.Lq
