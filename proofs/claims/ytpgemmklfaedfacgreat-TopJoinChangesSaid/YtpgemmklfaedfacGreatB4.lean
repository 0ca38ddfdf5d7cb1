/- Towards TopJoinChanges of seat YtpgemmklfaedfacGreat: it returns true for every input. Made out of the proof's own texts, merged. -/
import Derived.Below
import Derived.Test.YtpgemmklfaedfacGreatB3
set_option linter.unusedSimpArgs false
set_option linter.unnecessarySimpa false
set_option linter.unusedVariables false
set_option linter.unusedSectionVars false
namespace Go.Lq
open Go
def Rounded (l : Nat) (Rb : AObj) (J : AHeap → Prop) (S : AExit → AHeap → Prop) (x : AExit) (_ : Env) (H : AHeap) : Prop :=
  H[l]? = some Rb ∧ ((x = .normal ∧ J H) ∨ (x ≠ .normal ∧ S x H))
theorem rounded_n {l : Nat} {Rb : AObj} {J : AHeap → Prop} {S : AExit → AHeap → Prop} {e : Env} {H : AHeap} (h1 : H[l]? = some Rb) (h2 : J H) : Rounded l Rb J S .normal e H := ⟨h1,.inl ⟨rfl,h2⟩⟩
def Round (P : Program) (l : Nat) (assign body : RCode) (env : Env) (H1 : AHeap) (J : AHeap → Prop) (S : AExit → AHeap → Prop) : Prop :=
  ∀ R Rb : AObj,(∃ r,Rb = .loop r) → H1[l]? = some R → AWP P (some l) assign (fun x env1 H2 => x = .normal ∧ H2[l]? = some R ∧ AWP P (some l) body (Rounded l Rb J S) env1 (H2.set l Rb)) env H1
def GenA (P : Program) (f : FuncId) (xs ys : List Value) (Fact : AHeap → Prop) (items : List (List Value)) : Prop :=
  ∀ (l : Nat) (I : List (List Value) → AHeap → Prop) (S : AHeap → Prop) (H : AHeap),(∀ rest H,I rest H → Fact H) →
    (∀ a rest H,I (a :: rest) H → ARound P l a H fun v H' => (v = .bool true ∧ I rest H') ∨ (v = .bool false ∧ S H')) → I items H → ACall P f (xs ++ [.func (.yield l) #[] #[]] ++ ys) H fun _ H' => I [] H' ∨ S H'
theorem GenA.mono {P : Program} {f : FuncId} {xs ys : List Value} {F F' : AHeap → Prop} {items : List (List Value)} (h : GenA P f xs ys F items) (hf : ∀ H,F' H → F H) : GenA P f xs ys F' items :=
  fun l I S H h1 h2 h3 => h l I S H (fun rest H hi => hf H (h1 rest H hi)) h2 h3
section
variable {P : Program} {ar : Option Nat} {g : Operand} {f : FuncId} {xs ys : List Value} {ps : List Nat} {assign body : RCode} {Q : AExit → Env → AHeap → Prop} {env : Env} {H : AHeap} {Fact : AHeap → Prop} {items : List (List Value)}
def recOf (env : Env) (ps : List Nat) (assign body : RCode) : ALoop := { state := .ready,pending := none,env := env,params := ps,assign := assign,body := body }
theorem get_set_self {H : AHeap} {l : Nat} {c d : AObj} (h : H[l]? = some c) : (H.set l d)[l]? = some d := by
  rw [List.getElem?_set_self (List.getElem?_eq_some_iff.1 h).1]
theorem set_set (H : AHeap) (l : Nat) (c d : AObj) : (H.set l c).set l d = H.set l d := List.set_set ..
theorem round_of {l : Nat} {R : ALoop} {a : List Value} {H1 : AHeap} {J : AHeap → Prop} {S : AExit → AHeap → Prop} {Q1 : Value → AHeap → Prop} (hm : P.follows .mixedOrders = true) (hlen : a.length = R.params.length) (h : Round P l R.assign R.body (assignParams R.env R.params a) H1 J S) (hl : H1[l]? = some (.loop R)) (hr : R.state = .ready) (hp : R.pending = none)
    (hJ : ∀ H c,J H → H[l]? = some (.loop R) ∨ True → J (H.set l c)) (hq : ∀ H',H'[l]? = some (.loop R) → J H' → Q1 (.bool true) H')
    (hs : ∀ H' x,x ≠ .normal → H'[l]? = some (.loop { R with state := .done,pending := some x }) → (∃ H3,S x H3 ∧ H' = H3.set l (.loop { R with state := .done,pending := some x })) → Q1 (.bool false) H') : ARound P l a H1 Q1 := by
  refine around_intro hm hl hlen (AWP.mono (h _ _ ⟨_,rfl⟩ hl) fun x env1 H2 ⟨e,h1,h2⟩ => ⟨e,R,h1,hr,AWP.mono h2 fun y env3 H3 ⟨h3,h4⟩ => ⟨_,h3,?_⟩⟩)
  rcases h4 with ⟨rfl,h4⟩ | ⟨hn,h4⟩
  · have e1 : ({ ({ R with state := .busy } : ALoop) with state := .ready,pending := none } : ALoop) = R := by cases R; simp_all
    have e2 : (AExit.normal == AExit.normal) = true := rfl
    simp only [e2,if_true,e1]
    exact hq _ (get_set_self h3) (hJ _ _ h4 (.inr trivial))
  · have e2 : (y == AExit.normal) = false := by simp [hn]
    simp only [e2,Bool.false_eq_true,if_false]
    exact hs _ y hn (get_set_self h3) ⟨H3,h4,rfl⟩
theorem rangeEnd_n {l : Nat} {R : ALoop} {H' : AHeap} (hl : H'[l]? = some (.loop R)) (hr : R.state = .ready) (hp : R.pending = none) (h : ∀ c,Q .normal env (H'.set l c)) : RangeEnd l env Q H' :=
  ⟨R,hl,by rw [hr]; simp,by rw [hp]; simp,by rw [hp]; exact h _⟩
theorem rangeEnd_x {l : Nat} {R : ALoop} {x : AExit} {H' : AHeap} (hn : x ≠ .normal) (hl : H'[l]? = some (.loop { R with state := .done,pending := some x })) (h : ∀ c,Q x env (H'.set l c)) : RangeEnd l env Q H' :=
  ⟨_,hl,by simp,by simpa using hn,h _⟩
theorem awp_rangeA (hm : P.follows .mixedOrders = true) (hg : evalA env g = .func (.func f) ⟨xs⟩ ⟨ys⟩) (har : ∀ l,ar = some l → ∃ r,H[l]? = some (.loop r)) (hgen : GenA P f xs ys Fact items)
    (J : List (List Value) → AHeap → Prop) (S : AExit → AHeap → Prop) (hJ : ∀ rest H' c,J rest H' → J rest (H'.set H.length c)) (hS : ∀ x H' c,S x H' → S x (H'.set H.length c)) (hF : ∀ rest H',J rest H' → Fact H')
    (h0 : ∀ N,J items (H ++ N))
    (hbody : ∀ a rest H1,J (a :: rest) H1 → H.length < H1.length → a.length = ps.length ∧ Round P H.length assign body (assignParams env ps a) H1 (J rest) S)
    (hend : ∀ H',J [] H' → Q .normal env H') (hstop : ∀ x H',x ≠ .normal → S x H' → Q x env H') : AWP P ar (.rangeFunc g ps assign body) Q env H := by
  refine awp_rangeFunc hg har ?_
  show ACall P f _ (H ++ [.loop (recOf env ps assign body)]) _
  refine (hgen H.length (fun rest H' => J rest H' ∧ H'[H.length]? = some (.loop (recOf env ps assign body)))
    (fun H' => ∃ x,x ≠ .normal ∧ S x H' ∧ H'[H.length]? = some (.loop { recOf env ps assign body with state := .done,pending := some x })) _ (fun rest H' h => hF rest H' h.1) (fun a rest H1 ⟨h1,h2⟩ => ?_) ⟨h0 _,by simp⟩).mono fun _ H' h => ?_
  · refine round_of hm (hbody a rest H1 h1 (List.getElem?_eq_some_iff.1 h2).1).1 (hbody a rest H1 h1 (List.getElem?_eq_some_iff.1 h2).1).2 h2 rfl rfl (fun H' c h _ => hJ _ _ _ h) (fun H' h3 h4 => .inl ⟨rfl,h4,h3⟩) fun H' x hn h3 ⟨H3,h4,e⟩ => .inr ⟨rfl,x,hn,?_,h3⟩
    rw [e]; exact hS _ _ _ h4
  · rcases h with ⟨h1,h2⟩ | ⟨x,hn,h1,h2⟩
    · exact rangeEnd_n h2 rfl rfl fun c => hend _ (hJ _ _ _ h1)
    · exact rangeEnd_x hn h2 fun c => hstop x _ hn (hS _ _ _ h1)
end
def Keeps (k : Nat) (G H : AHeap) : Prop := G.length ≤ H.length ∧ ∀ i,i < G.length → i ≠ k → H[i]? = G[i]?
theorem Keeps.app {k : Nat} {G H : AHeap} (h : Keeps k G H) (N : AHeap) : Keeps k G (H ++ N) :=
  ⟨by have := h.1; simp; omega,fun i hi hk => by rw [List.getElem?_append_left (by have := h.1; omega)]; exact h.2 i hi hk⟩
theorem Keeps.set {k j : Nat} {G H : AHeap} (h : Keeps k G H) (hj : j = k ∨ G.length ≤ j) (c : AObj) : Keeps k G (H.set j c) :=
  ⟨by simpa using h.1,fun i hi hk => by rw [List.getElem?_set_ne (by omega)]; exact h.2 i hi hk⟩
theorem Keeps.get {k : Nat} {G H : AHeap} (h : Keeps k G H) {i : Nat} {c : AObj} (hi : G[i]? = some c) (hk : i ≠ k) : H[i]? = some c := by
  rw [h.2 i (List.getElem?_eq_some_iff.1 hi).1 hk]; exact hi
theorem ext_of_get {H0 H : AHeap} (hl : H0.length ≤ H.length) (h : ∀ i,i < H0.length → H[i]? = H0[i]?) : Ext H0 H := by
  refine ⟨H.drop H0.length,List.ext_getElem? fun i => ?_⟩
  by_cases hi : i < H0.length
  · rw [List.getElem?_append_left hi]; exact h i hi
  · rw [List.getElem?_append_right (by omega),List.getElem?_drop]
    congr 1; omega
theorem Keeps.ext {k : Nat} {H0 G H : AHeap} (h : Keeps k G H) (hx : Ext H0 G) (hk : H0.length ≤ k) : Ext H0 H :=
  ext_of_get (by have := hx.len; have := h.1; omega) fun i hi => by rw [h.2 i (by have := hx.len; omega) (by omega)]; exact hx.get hi
theorem Keeps.trans {k : Nat} {G H H' : AHeap} (h : Keeps k G H) (h' : Ext H H') : Keeps k G H' := by obtain ⟨N,rfl⟩ := h'; exact h.app N
theorem appH_at {H : AHeap} {v : Value} {sz : Nat} {vs : List Value} {i : Nat} (hi : i < H.length) (hv : v = .slice none 0 0 ∨ idOf v ≠ i) : (appH H v sz vs)[i]? = H[i]? := by
  unfold appH
  split
  · rename_i a n c
    rw [List.getElem?_append_left (by simpa using hi),List.getElem?_set_ne]
    rcases hv with h | h
    · cases h
    · exact h
  · rw [List.getElem?_append_left hi]
end Go.Lq
namespace Go.Lq
open Go
theorem Own.set_ne {H0 H : AHeap} {sz n : Nat} {vs : List Value} {v : Value} (h : Own H0 H sz n vs v) {j : Nat} (hj : n = 0 ∨ idOf v ≠ j) (c : AObj) : Own H0 (H.set j c) sz n vs v :=
  ⟨h.1,h.2.imp_right fun ⟨id,e,h1,h2,hc⟩ => ⟨id,e,h1,h2,by
    subst e
    rw [List.getElem?_set_ne (by rcases hj with h | h; omega; exact fun e => h (by simpa [idOf] using e.symm))]; exact hc⟩⟩
theorem Own.weaken {H0 G H : AHeap} {sz n : Nat} {vs : List Value} {v : Value} (h : Own G H sz n vs v) (hg : H0.length ≤ G.length) : Own H0 H sz n vs v :=
  ⟨h.1,h.2.imp_right fun ⟨id,e,h1,h2⟩ => ⟨id,e,by omega,h2⟩⟩
theorem OwnI.weaken {H0 G H : AHeap} {l : List Int} {v : Value} (h : OwnI G H l v) (hg : H0.length ≤ G.length) : OwnI H0 H l v := Own.weaken h hg
theorem OwnP.weaken {H0 G H : AHeap} {l : List (Int × Int)} {v : Value} (h : OwnP G H l v) (hg : H0.length ≤ G.length) : OwnP H0 H l v := Own.weaken h hg
theorem OwnI.set_ne {H0 H : AHeap} {l : List Int} {v : Value} (h : OwnI H0 H l v) {j : Nat} (hj : l.length = 0 ∨ idOf v ≠ j) (c : AObj) : OwnI H0 (H.set j c) l v := Own.set_ne h hj c
theorem pushH_at {H : AHeap} {v : Value} {l : List Int} {x : Int} {i : Nat} {c : AObj} (h : H[i]? = some c) (hv : v = .slice none 0 0 ∨ idOf v ≠ i) : (pushH H v l x)[i]? = some c := by
  have hi := (List.getElem?_eq_some_iff.1 h).1
  unfold pushH
  rw [appH_at (by simp; omega) hv,List.getElem?_append_left hi]; exact h
theorem OwnI.nil_or {H0 H : AHeap} {l : List Int} {v : Value} (h : OwnI H0 H l v) {i : Nat} (hi : l.length = 0 ∨ idOf v ≠ i) : v = .slice none 0 0 ∨ idOf v ≠ i := by
  rcases h.2 with ⟨rfl,_⟩ | ⟨id,rfl,_,h0,_⟩
  · exact .inl rfl
  · exact .inr (by rcases hi with h | h; omega; exact h)
theorem OwnI.shape {H0 H : AHeap} {l : List Int} {v : Value} (h : OwnI H0 H l v) : ∃ a n c,v = .slice a n c := by
  rcases h.2 with ⟨rfl,_⟩ | ⟨id,rfl,_⟩ <;> exact ⟨_,_,_,rfl⟩
theorem isAtom_sl {v : Value} (h : ∃ a n c,v = .slice a n c) : isAtom v = true := by obtain ⟨_,_,_,rfl⟩ := h; rfl
theorem cells_sl {v : Value} (h : ∃ a n c,v = .slice a n c) : v.cells = ⟨[v]⟩ := by obtain ⟨_,_,_,rfl⟩ := h; rfl
end Go.Lq

namespace Go.Lq
open Go
def mkSliceR (bytes : Nat) (zero : List Value) (l c : Value) (H : AHeap) : Option (Value × AHeap) :=
  match l,c with
  | .int .i64 a,.int .i64 b =>
    if 0 ≤ a ∧ a ≤ b ∧ roomOk bytes b.toNat = true ∧ zero.all isAtom = true ∧ zero.all constOk = true then
      some (.slice (some ⟨H.length,0,none⟩) a.toNat (if b = 0 then 0 else if a = 0 then 2 else a.toNat),H ++ [.cells true zero.length (zeroRow zero (a.toNat * zero.length))])
    else none
  | _,_ => none
theorem r_mkSlice {ρ : Operand → Value} {H : AHeap} {bytes : Nat} {zero : List Value} {x y : Operand} : ropRun (.mkSlice bytes zero x y) ρ H = mkSliceR bytes zero (ρ x) (ρ y) H := rfl
attribute [go_sem] r_mkSlice
theorem zeroRow_one (z : Value) (n : Nat) : zeroRow [z] n = List.replicate n z := by
  unfold zeroRow
  refine List.ext_getElem (by simp) fun i h1 h2 => ?_
  simp [Nat.mod_one]
theorem mkSlice_zero {bytes : Nat} {z : Value} {n : Nat} {H : AHeap} (h0 : 0 < n) (hr : roomOk bytes n = true) (ha : isAtom z = true) (hc : constOk z = true) :
    mkSliceR bytes [z] (.int .i64 n) (.int .i64 n) H = some (.slice (some ⟨H.length,0,none⟩) n n,H ++ [.cells true 1 (List.replicate n z)]) := by
  have e1 : (n : Int).toNat = n := by omega
  have e2 : ¬ (n : Int) = 0 := by omega
  unfold mkSliceR
  simp only [e1,e2,if_false,List.all_cons,List.all_nil,ha,hc,hr,Bool.and_true,and_true,Int.le_refl]
  rw [if_pos (by omega)]
  simp only [List.length_cons,List.length_nil,Nat.zero_add,Nat.mul_one,zeroRow_one]
theorem mkSlice_ints {n : Nat} {H : AHeap} (h0 : 0 < n) (hn : n ≤ 1000000000) :
    mkSliceR 8 [.int .i64 0] (.int .i64 n) (.int .i64 n) H = some (.slice (some ⟨H.length,0,none⟩) n n,H ++ [.cells true 1 ((List.replicate n (0 : Int)).map (.int .i64))]) := by
  rw [mkSlice_zero h0 (roomOk_of (by omega) (by omega)) rfl rfl,List.map_replicate]
theorem getD_set {α : Type} {l : List α} {d x : α} {i j : Nat} (hi : i < l.length) : (l.set i x).getD j d = if j = i then x else l.getD j d := by
  rw [List.getD_eq_getElem?_getD,List.getElem?_set,List.getD_eq_getElem?_getD]
  by_cases h : i = j
  · subst h; simp [hi]
  · rw [if_neg h,if_neg (fun e => h e.symm)]
theorem Ext.cell {H H' : AHeap} (h : Ext H H') {i : Nat} {c : AObj} (hc : H[i]? = some c) : H'[i]? = some c := (h.get (List.getElem?_eq_some_iff.1 hc).1).trans hc
end Go.Lq

namespace Go.Lq
open Go
def rowVs (k : Nat) (ll : List (List Int)) : List Value := (List.range ll.length).map fun i => .slice (some ⟨k + i,0,none⟩) (ll.getD i []).length (ll.getD i []).length
def rowOs (ll : List (List Int)) : AHeap := ll.map fun l => .cells true 1 (l.map (.int .i64))
def retLV (H : AHeap) (ll : List (List Int)) : Value := if ll.length = 0 then .slice none 0 0 else .slice (some ⟨H.length + ll.length,0,none⟩) ll.length ll.length
def retLN (H : AHeap) (ll : List (List Int)) : AHeap := if ll.length = 0 then [] else rowOs ll ++ [.cells true 1 (rowVs H.length ll)]
theorem rowOs_at {H N : AHeap} {ll : List (List Int)} {i : Nat} (hi : i < ll.length) : (H ++ (rowOs ll ++ N))[H.length + i]? = some (.cells true 1 ((ll.getD i []).map (.int .i64))) := by
  rw [List.getElem?_append_right (by omega),Nat.add_sub_cancel_left,List.getElem?_append_left (by simpa [rowOs] using hi),rowOs,List.getElem?_map,List.getElem?_eq_getElem hi,List.getD_eq_getElem?_getD,List.getElem?_eq_getElem hi]
  rfl
theorem rowOs_last {H : AHeap} {ll : List (List Int)} {c : AObj} : (H ++ (rowOs ll ++ [c]))[H.length + ll.length]? = some c := by
  have : (rowOs ll).length = ll.length := by simp [rowOs]
  rw [List.getElem?_append_right (by omega),Nat.add_sub_cancel_left,List.getElem?_append_right (by omega),this,Nat.sub_self]; rfl
theorem OwnL.ret {H0 H : AHeap} {ll : List (List Int)} (hx : H0.length ≤ H.length) : OwnL H0 (H ++ retLN H ll) ll (retLV H ll) := by
  unfold retLN retLV
  by_cases h0 : ll.length = 0
  · obtain rfl := List.length_eq_zero_iff.1 h0
    exact OwnL.nil _ _
  rw [if_neg h0,if_neg h0]
  have hv : ∀ i,i < ll.length → (rowVs H.length ll).getD i undef = .slice (some ⟨H.length + i,0,none⟩) (ll.getD i []).length (ll.getD i []).length := fun i hi => by
    unfold rowVs
    rw [List.getD_eq_getElem?_getD,List.getElem?_map,List.getElem?_range hi]; rfl
  refine ⟨rowVs H.length ll,⟨by simp [rowVs],.inr ⟨H.length + ll.length,rfl,by omega,by omega,rowOs_last⟩⟩,fun i hi => ⟨H.length + i,hv i hi,?_,by omega,rowOs_at hi⟩,fun i j hij hj => ?_⟩
  · show H.length + ll.length ≠ H.length + i
    omega
  · rw [hv i (by omega),hv j hj]
    show H.length + i ≠ H.length + j
    omega
section
variable {P : Program} {g : FuncId} {args : List Value} {H : AHeap} {ll : List (List Int)} {f : Value → Value}
end
end Go.Lq

namespace Go.Lq
open Go
theorem getD_set_ne {α : Type} {l : List α} {d x : α} {i j : Nat} (h : i ≠ j) : (l.set i x).getD j d = l.getD j d := by
  rw [List.getD_eq_getElem?_getD,List.getElem?_set_ne h,List.getD_eq_getElem?_getD]
theorem getD_set_eq {α : Type} {l : List α} {d x : α} {i : Nat} (h : i < l.length) : (l.set i x).getD i d = x := by
  rw [getD_set h,if_pos rfl]
theorem awp_mid {P : Program} {ar : Option Nat} {R y : RCode} {Qy Qz : AExit → Env → AHeap → Prop} {env : Env} {H : AHeap} (m : List Bool) (I : Env → AHeap → Prop)
    (h1 : AWP P ar R (fun x e' H' => x = .normal ∧ I (forget m e') H') env H) (h2 : ∀ e H,I e H → AWP P ar y Qy e H) : AWP P ar R (Seq (AWP P ar y Qy) Qz) env H :=
  AWP.mono h1 fun x e' H' ⟨hx,hI⟩ => by subst hx; exact awp_forget m (h2 _ _ hI)
structure OwnR (k : Nat) (H : AHeap) (ll : List (List Int)) (vs : List Value) : Prop where
  own : H[k]? = some (.cells true 1 vs)
  len : vs.length = ll.length
  row : ∀ i,i < ll.length → OwnI [] H (ll.getD i []) (vs.getD i undef)
  far : ∀ i,i < ll.length → 0 < (ll.getD i []).length → k < idOf (vs.getD i undef)
  apart : ∀ i j,i ≠ j → i < ll.length → j < ll.length → 0 < (ll.getD i []).length → 0 < (ll.getD j []).length → idOf (vs.getD i undef) ≠ idOf (vs.getD j undef)
section
variable {k : Nat} {H G : AHeap} {ll : List (List Int)} {vs : List Value}
def Aside (k : Nat) (ll : List (List Int)) (vs : List Value) (j : Nat) : Prop := j ≠ k ∧ ∀ i,i < ll.length → 0 < (ll.getD i []).length → idOf (vs.getD i undef) ≠ j
theorem OwnI.same {H0 H H' : AHeap} {l : List Int} {v : Value} (h : OwnI H0 H l v) (hs : 0 < l.length → H'[idOf v]? = H[idOf v]?) : OwnI H0 H' l v := by
  refine ⟨h.1,h.2.imp_right fun ⟨id,e,h1,h2,hc⟩ => ⟨id,e,h1,h2,?_⟩⟩
  subst e
  have := hs h2
  simp only [idOf] at this
  rw [this]; exact hc
theorem OwnR.lt (h : OwnR k H ll vs) : k < H.length := (List.getElem?_eq_some_iff.1 h.own).1
theorem OwnR.idlt (h : OwnR k H ll vs) {i : Nat} (hi : i < ll.length) (hl : 0 < (ll.getD i []).length) : idOf (vs.getD i undef) < H.length := ((h.row i hi).id_lt hl).2
theorem OwnR.app (h : OwnR k H ll vs) (N : AHeap) : OwnR k (H ++ N) ll vs := ⟨at_app h.own,h.len,fun i hi => (h.row i hi).app N,h.far,h.apart⟩
theorem OwnR.set (h : OwnR k H ll vs) {j : Nat} (hj : Aside k ll vs j) (c : AObj) : OwnR k (H.set j c) ll vs :=
  ⟨by rw [List.getElem?_set_ne hj.1]; exact h.own,h.len,fun i hi => (h.row i hi).same fun hl => by rw [List.getElem?_set_ne (Ne.symm (hj.2 i hi hl))],h.far,h.apart⟩
theorem OwnR.sl (h : OwnR k H ll vs) {n c : Nat} (hn : n = ll.length) : Sl H 1 n vs (.slice (some ⟨k,0,none⟩) n c) := Sl.of h.own (by rw [h.len,hn,Nat.mul_one])
theorem OwnR.lists (h : OwnR k H ll vs) {n c : Nat} (hn : n = ll.length) : Lists H ll vs (.slice (some ⟨k,0,none⟩) n c) := by
  subst hn
  exact ⟨h.sl rfl,fun i hi => (h.row i hi).ints⟩
theorem store_cell {k e : Nat} {H : AHeap} {vs : List Value} {v : Value} {i n c : Nat} (h : H[k]? = some (.cells true e vs)) (hi : i < vs.length) (ha : isAtom v = true) (hc : v.cells = ⟨[v]⟩) :
    storeR 1 (addrOf (.slice (some ⟨k,0,none⟩) n c) i) v H = some (undef,H.set k (.cells true e (vs.set i v))) := by
  have e3 : ([v] : List Value).all isAtom = true := by simp [ha]
  have e4 : (v.cells).toList = [v] := by rw [hc]
  have e5 : (v.cells).size = 1 := by rw [hc]; rfl
  simp only [addrOf,Nat.zero_add,storeR,e5,if_true,storeAt,h,e4,e3,and_true,List.length_cons,List.length_nil]
  rw [if_pos (by omega),setCells_one _ _ _ hi]
  rfl
theorem OwnR.push (h : OwnR k H ll vs) {i : Nat} (hi : i < ll.length) (hb : (ll.getD i []).length < 1000000000) (x : Int) :
    ∃ v2 H2,appendA 1 8 (H ++ [.cells true 1 [.int .i64 x]]) (vs.getD i undef) (.slice (some ⟨H.length,0,none⟩) 1 1) = some (v2,H2) ∧
      (∀ n c,storeR 1 (addrOf (.slice (some ⟨k,0,none⟩) n c) i) v2 H2 = some (undef,H2.set k (.cells true 1 (vs.set i v2)))) ∧
      OwnR k (H2.set k (.cells true 1 (vs.set i v2))) (ll.set i (ll.getD i [] ++ [x])) (vs.set i v2) ∧ H.length ≤ idOf v2 ∧
      ∀ j c,Aside k ll vs j → H[j]? = some c → (H2.set k (.cells true 1 (vs.set i v2)))[j]? = some c := by
  have hrow := h.row i hi
  have hvi : i < vs.length := by rw [h.len]; exact hi
  have hne : ∀ j,(0 < (ll.getD i []).length → idOf (vs.getD i undef) ≠ j) → vs.getD i undef = .slice none 0 0 ∨ idOf (vs.getD i undef) ≠ j := fun j hj => hrow.nil_or (by
    by_cases h0 : (ll.getD i []).length = 0
    · exact .inl h0
    · exact .inr (hj (by omega)))
  have hself : (pushH H (vs.getD i undef) (ll.getD i []) x)[k]? = some (.cells true 1 vs) := pushH_at h.own (hne k fun hl => by have := h.far i hi hl; omega)
  have hpush := hrow.pushed ⟨H,by simp⟩ x
  refine ⟨pushV H (ll.getD i []).length,pushH H (vs.getD i undef) (ll.getD i []) x,hrow.push hb x,fun n c => store_cell hself hvi rfl rfl,⟨get_set_self hself,by simp [h.len],fun j hj => ?_,fun j hj hl => ?_,fun a b hab ha hb' ha0 hb0 => ?_⟩,?_,fun j c hj hc => ?_⟩
  · simp only [List.length_set] at hj
    by_cases hji : j = i
    · subst hji
      rw [getD_set_eq hi,getD_set_eq hvi]
      refine hpush.set_ne (.inr ?_) _
      show H.length + 1 ≠ k
      have := h.lt; omega
    · rw [getD_set_ne (Ne.symm hji),getD_set_ne (Ne.symm hji)]
      refine (h.row j hj).same fun hl => ?_
      have hjl := h.idlt hj hl
      have hjk := h.far j hj hl
      rw [List.getElem?_set_ne (by omega)]
      unfold pushH
      rw [appH_at (by simp only [List.length_append]; omega) (hne _ fun hl2 => h.apart i j (Ne.symm hji) hi hj hl2 hl),List.getElem?_append_left hjl]
  · simp only [List.length_set] at hj
    by_cases hji : j = i
    · subst hji
      rw [getD_set_eq hvi]
      show k < H.length + 1
      have := h.lt; omega
    · rw [getD_set_ne (Ne.symm hji)] at hl ⊢
      exact h.far j hj hl
  · simp only [List.length_set] at ha hb'
    by_cases hai : a = i
    · subst hai
      rw [getD_set_eq hvi,getD_set_ne hab]
      rw [getD_set_ne hab] at hb0
      have := h.idlt hb' hb0
      show H.length + 1 ≠ _
      omega
    · by_cases hbi : b = i
      · subst hbi
        rw [getD_set_eq hvi,getD_set_ne (Ne.symm hai)]
        rw [getD_set_ne (Ne.symm hai)] at ha0
        have := h.idlt ha ha0
        show _ ≠ H.length + 1
        omega
      · rw [getD_set_ne (Ne.symm hai),getD_set_ne (Ne.symm hbi)]
        rw [getD_set_ne (Ne.symm hai)] at ha0
        rw [getD_set_ne (Ne.symm hbi)] at hb0
        exact h.apart a b hab ha hb' ha0 hb0
  · show H.length ≤ H.length + 1
    omega
  · rw [List.getElem?_set_ne (Ne.symm hj.1)]
    exact pushH_at hc (hne j fun hl => hj.2 i hi hl)
theorem OwnR.setRow (h : OwnR k H ll vs) {i : Nat} (hi : i < ll.length) {l : List Int} {v : Value} (hv : OwnI [] H l v) (hk : 0 < l.length → k < idOf v)
    (ha : ∀ j,j < ll.length → j ≠ i → 0 < (ll.getD j []).length → 0 < l.length → idOf (vs.getD j undef) ≠ idOf v) :
    (∀ n c,storeR 1 (addrOf (.slice (some ⟨k,0,none⟩) n c) i) v H = some (undef,H.set k (.cells true 1 (vs.set i v)))) ∧ OwnR k (H.set k (.cells true 1 (vs.set i v))) (ll.set i l) (vs.set i v) := by
  have hvi : i < vs.length := by rw [h.len]; exact hi
  refine ⟨fun n c => store_cell h.own hvi (isAtom_sl hv.shape) (cells_sl hv.shape),get_set_self h.own,by simp [h.len],fun j hj => ?_,fun j hj hl => ?_,fun a b hab ha' hb ha0 hb0 => ?_⟩
  · simp only [List.length_set] at hj
    by_cases hji : j = i
    · subst hji
      rw [getD_set_eq hi,getD_set_eq hvi]
      refine hv.set_ne ?_ _
      by_cases h0 : l.length = 0
      · exact .inl h0
      · exact .inr (by have := hk (by omega); omega)
    · rw [getD_set_ne (Ne.symm hji),getD_set_ne (Ne.symm hji)]
      exact (h.row j hj).same fun hl => by rw [List.getElem?_set_ne (by have := h.far j hj hl; omega)]
  · simp only [List.length_set] at hj
    by_cases hji : j = i
    · subst hji
      rw [getD_set_eq hi] at hl
      rw [getD_set_eq hvi]
      exact hk hl
    · rw [getD_set_ne (Ne.symm hji)] at hl ⊢
      exact h.far j hj hl
  · simp only [List.length_set] at ha' hb
    by_cases hai : a = i
    · subst hai
      rw [getD_set_eq hvi,getD_set_ne hab]
      rw [getD_set_eq hi] at ha0
      rw [getD_set_ne hab] at hb0
      exact Ne.symm (ha b hb (Ne.symm hab) hb0 ha0)
    · by_cases hbi : b = i
      · subst hbi
        rw [getD_set_eq hvi,getD_set_ne (Ne.symm hai)]
        rw [getD_set_ne (Ne.symm hai)] at ha0
        rw [getD_set_eq hi] at hb0
        exact ha a ha' hab ha0 hb0
      · rw [getD_set_ne (Ne.symm hai),getD_set_ne (Ne.symm hbi)]
        rw [getD_set_ne (Ne.symm hai)] at ha0
        rw [getD_set_ne (Ne.symm hbi)] at hb0
        exact h.apart a b hab ha' hb ha0 hb0
theorem OwnR.low (h : OwnR k H ll vs) {j : Nat} (hj : j < k) : Aside k ll vs j := ⟨by omega,fun i hi hl => by have := h.far i hi hl; omega⟩
theorem OwnR.keep {H' : AHeap} (h : OwnR k H ll vs) (hx : Ext G H) (hk : G.length ≤ k) (hl : G.length ≤ H'.length) (hs : ∀ j c,Aside k ll vs j → H[j]? = some c → H'[j]? = some c) : Ext G H' :=
  ext_of_get hl fun i hi => by
    rw [← hx.get hi]
    have hlt : i < H.length := by have := hx.len; omega
    rw [List.getElem?_eq_getElem hlt]
    exact hs i _ (h.low (by omega)) (List.getElem?_eq_getElem hlt)
theorem OwnR.ownL {H0 : AHeap} (h : OwnR k H ll vs) (hk : H0.length ≤ k) (h0 : 0 < ll.length) (hl : ∀ i,i < ll.length → 0 < (ll.getD i []).length) : OwnL H0 H ll (.slice (some ⟨k,0,none⟩) ll.length ll.length) := by
  refine ⟨vs,⟨by rw [h.len,Nat.mul_one],.inr ⟨k,rfl,hk,h0,h.own⟩⟩,fun i hi => ?_,fun i j hij hj => h.apart i j (by omega) (by omega) hj (hl i (by omega)) (hl j hj)⟩
  have hr := h.row i hi
  have hf := h.far i hi (hl i hi)
  rcases hr.2 with ⟨_,h1⟩ | ⟨id,e,_,h2,hc⟩
  · have := hl i hi; omega
  · rw [e] at hf
    simp only [idOf] at hf
    exact ⟨id,e,by show k ≠ id; omega,by omega,hc⟩
end
end Go.Lq
namespace Go.Lq
open Go
section
variable {H0 H B : AHeap} {ll : List (List Int)} {l : List Int} {v w : Value}
theorem OwnL.app (h : OwnL H0 H ll v) (N : AHeap) : OwnL H0 (H ++ N) ll v := by
  obtain ⟨vs,ho,hr,hd⟩ := h
  exact ⟨vs,ho.app N,fun i hi => by obtain ⟨id,e,h1,h2,h3⟩ := hr i hi; exact ⟨id,e,h1,h2,at_app h3⟩,hd⟩
theorem OwnL.shape (h : OwnL H0 H ll v) : ∃ a n c,v = .slice a n c := by
  obtain ⟨_,ho,_⟩ := h
  rcases ho.2 with ⟨rfl,_⟩ | ⟨id,rfl,_⟩ <;> exact ⟨_,_,_,rfl⟩
theorem OwnL.pushRow (h : OwnL H0 B ll v) (hx0 : Ext H0 B) (hx : Ext B H) (hr : OwnI B H l w) (hl : 0 < l.length) (hb : ll.length < 1000000000) :
    ∃ v' H',appendA 1 24 (H ++ [.cells true 1 [w]]) v (.slice (some ⟨H.length,0,none⟩) 1 1) = some (v',H') ∧ OwnL H0 H' (ll ++ [l]) v' ∧ Ext H0 H' := by
  obtain ⟨vs,ho,hrow,hd⟩ := h
  have hBl : ∀ {id : Nat} {c : AObj},B[id]? = some c → id < B.length := fun h => (List.getElem?_eq_some_iff.1 h).1
  obtain ⟨idw,rfl,hwge,hwc⟩ : ∃ id,w = .slice (some ⟨id,0,none⟩) l.length l.length ∧ B.length ≤ id ∧ H[id]? = some (.cells true 1 (l.map (.int .i64))) := by
    rcases hr.2 with ⟨_,h0⟩ | ⟨id,e,h1,_,hc⟩
    · omega
    · exact ⟨id,e,h1,hc⟩
  have hoH : Own H0 H 1 ll.length vs v := by obtain ⟨N,rfl⟩ := hx; exact ho.app N
  generalize hG : H ++ [AObj.cells true 1 [.slice (some ⟨idw,0,none⟩) l.length l.length]] = G
  have hoG : Own H0 G 1 ll.length vs v := by rw [← hG]; exact hoH.app _
  have hxG : Ext H0 G := by rw [← hG]; exact (hx0.trans hx).app _
  have hxBG : Ext B G := by rw [← hG]; exact hx.app _
  have hGl : G.length = H.length + 1 := by rw [← hG]; simp
  have hlen := hx.len
  have hlen0 := hx0.len
  have hidw : idw < H.length := (List.getElem?_eq_some_iff.1 hwc).1
  have hw : Sl G 1 1 [.slice (some ⟨idw,0,none⟩) l.length l.length] (.slice (some ⟨H.length,0,none⟩) 1 1) := by rw [← hG]; exact Sl.last rfl 1
  have happ := Own.append (bytes := 24) hoG hw (by omega) rfl (roomOk_of (by omega) (by omega))
  have hvl : vs.length = ll.length := by have := ho.1; omega
  have keep : ∀ (id : Nat) (c : AObj),(v = .slice none 0 0 ∨ idOf v ≠ id) → G[id]? = some c → (appH G v 1 (vs ++ [.slice (some ⟨idw,0,none⟩) l.length l.length]))[id]? = some c := fun id c hne hc => by
    rw [appH_at (List.getElem?_eq_some_iff.1 hc).1 hne]; exact hc
  have hvB : v = .slice none 0 0 ∨ idOf v < B.length := by
    rcases ho.2 with ⟨rfl,_⟩ | ⟨id0,rfl,_,_,hc⟩
    · exact .inl rfl
    · exact .inr (hBl hc)
  refine ⟨_,_,happ,⟨vs ++ [.slice (some ⟨idw,0,none⟩) l.length l.length],?_,fun i hi => ?_,fun i j hij hj => ?_⟩,Own.ext hoG hxG⟩
  · have := Own.appended hoG (m := 1) (cs := [.slice (some ⟨idw,0,none⟩) l.length l.length]) rfl (by omega) (by omega)
    simpa using this
  · by_cases hil : i < ll.length
    · obtain ⟨id,e,hne,hge,hc⟩ := hrow i hil
      refine ⟨id,?_,?_,hge,?_⟩
      · rw [getD_append_lt (by omega),getD_append_lt hil]; exact e
      · show G.length ≠ id
        have := hBl hc; omega
      · rw [getD_append_lt hil]
        exact keep id _ (.inr hne) (hxBG.cell hc)
    · have hi' : i = ll.length := by simp at hi; omega
      subst hi'
      refine ⟨idw,?_,?_,by omega,?_⟩
      · rw [getD_append_last,← hvl,getD_append_last]
      · show G.length ≠ idw
        omega
      · rw [getD_append_last]
        refine keep idw _ (hvB.imp_right fun h => by omega) ?_
        rw [← hG]; exact at_app hwc
  · have hj' : j ≤ ll.length := by simp at hj; omega
    have hil : i < ll.length := by omega
    rw [getD_append_lt (by omega)]
    by_cases hjl : j < ll.length
    · rw [getD_append_lt (by omega)]
      exact hd i j hij hjl
    · have : j = vs.length := by omega
      subst this
      rw [getD_append_last]
      obtain ⟨id,e,hne,hge,hc⟩ := hrow i hil
      have := hBl hc
      rw [e]
      show id ≠ idw
      omega
end
end Go.Lq
namespace Go.Lq
open Go
theorem closed_list {l : List Value} (h : ∀ v ∈ l,Closed v) : ∀ (i : Nat) v,(⟨l⟩ : Array Value)[i]? = some v → Closed v := fun i v hv => h v (List.mem_of_getElem? (by simpa using hv))
theorem closed_two (a b : Int) : Closed (.tuple #[.int .i64 a,.int .i64 b]) := .tuple _ (closed_list (l := [.int .i64 a,.int .i64 b]) fun v hv => by
  simp only [List.mem_cons,List.not_mem_nil,or_false] at hv
  rcases hv with rfl | rfl <;> exact .int _ _)
end Go.Lq
namespace Go.Lq
open Go
section
variable {P : Program}
theorem AOp.mono {r : ROp} {env : Env} {H : AHeap} {K K' : Value → AHeap → Prop} (h : AOp P r env H K) (hk : ∀ v H',K v H' → K' v H') : AOp P r env H K' := by
  unfold AOp at *
  split at h
  · exact h.mono hk
  · obtain ⟨v,H',h1,h2⟩ := h; exact ⟨v,H',h1,hk _ _ h2⟩
theorem AOps.mono {K K' : Env → AHeap → Prop} (hk : ∀ e H,K e H → K' e H) : ∀ {l : List ROper} {e : Env} {H : AHeap},AOps P l K e H → AOps P l K' e H
  | [],e,H,h => hk _ _ h
  | o :: l,e,H,⟨b,h1,h2,h3⟩ => ⟨b,h1,fun hb => (h2 hb).mono fun v H' h => AOps.mono hk h,fun hb => AOps.mono hk (h3 hb)⟩
theorem ADraw.mono {K K' : Env → AHeap → Prop} (hk : ∀ e H,K e H → K' e H) : ∀ {l : List (ROper × Bool)} {B : AHeap} {e : Env} {H : AHeap},ADraw P l B K e H → ADraw P l B K' e H
  | [],B,e,H,h => hk _ _ h
  | (o,fr) :: l,B,e,H,h => by
    cases hv : isVR o.op && fr with
    | true =>
      rw [adraw_v hv] at h ⊢
      exact AOps.mono hk h
    | false =>
      rw [adraw_n hv] at h ⊢
      obtain ⟨b,h1,h2,h3⟩ := h
      exact ⟨b,h1,fun hb => by obtain ⟨v,H',h4,h5⟩ := h2 hb; exact ⟨v,H',h4,ADraw.mono hk h5⟩,fun hb => ADraw.mono hk (h3 hb)⟩
theorem aops_mid {ar : Option Nat} {l : List ROper} {y : RCode} {Qy Qz : AExit → Env → AHeap → Prop} {env : Env} {H : AHeap} (m : List Bool) (I : Env → AHeap → Prop)
    (h1 : AOps P l (fun e' H' => I (forget m e') H') env H) (h2 : ∀ e H,I e H → AWP P ar y Qy e H) : AOps P l (Seq (AWP P ar y Qy) Qz .normal) env H :=
  AOps.mono (fun e' H' hI => awp_forget m (h2 _ _ hI)) h1
end
end Go.Lq


namespace Go.Lq
open Go
def wu (n : Int) : Int := IntKind.u64.wrap n
theorem wu_eq (n : Int) : wu n = n % 18446744073709551616 := by
  unfold wu IntKind.wrap IntKind.bits
  have : (2 : Int) ^ 64 = 18446744073709551616 := by decide
  simp [IntKind.signed]
theorem wu_id {n : Int} (h0 : 0 ≤ n) (h : n < 18446744073709551616) : wu n = n := by rw [wu_eq]; omega
section
variable {H : AHeap} {a b : Int}
theorem a_addU : arithR .add (.int .u64 a) (.int .u64 b) H = some (.int .u64 (wu (a + b)),H) := by simp [arithR,arithA,wu]
theorem a_subU : arithR .sub (.int .u64 a) (.int .u64 b) H = some (.int .u64 (wu (a - b)),H) := by simp [arithR,arithA,wu]
theorem a_mulU : arithR .mul (.int .u64 a) (.int .u64 b) H = some (.int .u64 (wu (a * b)),H) := by simp [arithR,arithA,wu]
theorem c_lssU {k : IntKind} : cmpR .lss (.int k a) (.int k b) H = some (.bool (decide (a < b)),H) := by simp [cmpR,cmpA]
theorem c_leqU {k : IntKind} : cmpR .leq (.int k a) (.int k b) H = some (.bool (decide (a ≤ b)),H) := by simp [cmpR,cmpA]
theorem c_gtrU {k : IntKind} : cmpR .gtr (.int k a) (.int k b) H = some (.bool (decide (b < a)),H) := by simp [cmpR,cmpA]
theorem c_geqU {k : IntKind} : cmpR .geq (.int k a) (.int k b) H = some (.bool (decide (b ≤ a)),H) := by simp [cmpR,cmpA]
theorem c_eqlU {k : IntKind} : cmpR .eql (.int k a) (.int k b) H = some (.bool (decide (a = b)),H) := by
  simp [cmpR,cmpA]
  by_cases h : a = b <;> simp [h]
theorem c_neqU {k : IntKind} : cmpR .neq (.int k a) (.int k b) H = some (.bool (decide (a ≠ b)),H) := by
  simp [cmpR,cmpA]
  by_cases h : a = b <;> simp [h]
theorem conv_iu : convR .u64 (.int .i64 a) H = some (.int .u64 (wu a),H) := rfl
theorem conv_ui : convR .i64 (.int .u64 a) H = some (.int .i64 (w64 a),H) := rfl
theorem conv_8i : convR .i64 (.int .u8 a) H = some (.int .i64 (w64 a),H) := rfl
theorem conv_u8 (h0 : 0 ≤ a) (h : a < 256) : convR .u8 (.int .u64 a) H = some (.int .u8 a,H) := by
  simp only [convR,IntKind.wrap,IntKind.bits]
  have : (2 : Int) ^ 8 = 256 := by decide
  simp [IntKind.signed]
  omega
def bandR (x y : Value) (H : AHeap) : Option (Value × AHeap) := match x,y with | .int k a,.int k' b => if k = k' then some (.int k (k.wrap (BitVec.ofInt k.bits a &&& BitVec.ofInt k.bits b).toNat),H) else none | _,_ => none
def borR (x y : Value) (H : AHeap) : Option (Value × AHeap) := match x,y with | .int k a,.int k' b => if k = k' then some (.int k (k.wrap (BitVec.ofInt k.bits a ||| BitVec.ofInt k.bits b).toNat),H) else none | _,_ => none
def shrR (x y : Value) (H : AHeap) : Option (Value × AHeap) := match x,y with | .int k a,.int _ b => if b < 0 then none else some (.int k (a.fdiv (2 ^ min b.toNat k.bits)),H) | _,_ => none
def shlR (x y : Value) (H : AHeap) : Option (Value × AHeap) := match x,y with | .int k a,.int _ b => if b < 0 then none else some (.int k (k.wrap (a * 2 ^ min b.toNat k.bits)),H) | _,_ => none
def idxSR (x i : Value) (H : AHeap) : Option (Value × AHeap) := match x,i with | .string s,.int _ n => (idxStr s n).map fun v => (v,H) | _,_ => none
def lenSR (x : Value) (H : AHeap) : Option (Value × AHeap) := match x with | .string s => some (.int .i64 s.size,H) | _ => none
def strOpR (op : BinOp) (x y : Value) (H : AHeap) : Option (Value × AHeap) := match x,y with | .string a,.string b => (strA op a b).map fun v => (v,H) | _,_ => none
def sliceSR (x : Value) (lo hi : Option Value) (H : AHeap) : Option (Value × AHeap) := match x with | .string s => (subS s lo hi).map fun v => (v,H) | _ => none
variable {ρ : Operand → Value} {x y : Operand}
theorem r_band : ropRun (.band x y) ρ H = bandR (ρ x) (ρ y) H := rfl
theorem r_bor : ropRun (.bor x y) ρ H = borR (ρ x) (ρ y) H := rfl
theorem r_shr : ropRun (.shr x y) ρ H = shrR (ρ x) (ρ y) H := rfl
theorem r_shl : ropRun (.shl x y) ρ H = shlR (ρ x) (ρ y) H := rfl
theorem r_idxS : ropRun (.idxS x y) ρ H = idxSR (ρ x) (ρ y) H := rfl
theorem r_lenS : ropRun (.lenS x) ρ H = lenSR (ρ x) H := rfl
theorem r_strOp {op : BinOp} : ropRun (.strOp op x y) ρ H = strOpR op (ρ x) (ρ y) H := rfl
theorem r_sliceS {lo hi : Option Operand} : ropRun (.sliceS x lo hi) ρ H = sliceSR (ρ x) (lo.map ρ) (hi.map ρ) H := rfl
theorem lenS_s {s : ByteArray} : lenSR (.string s) H = some (.int .i64 s.size,H) := rfl
theorem ofInt_nat {n : Int} (h0 : 0 ≤ n) (h : n < 18446744073709551616) : (BitVec.ofInt 64 n).toNat = n.toNat := by
  rw [BitVec.toNat_ofInt]
  have : ((2 ^ 64 : Nat) : Int) = 18446744073709551616 := by decide
  rw [this]
  congr 1
  omega
theorem band_32 (h0 : 0 ≤ a) (h : a < 18446744073709551616) : bandR (.int .u64 a) (.int .u64 4294967295) H = some (.int .u64 (a % 4294967296),H) := by
  have e : (BitVec.ofInt 64 a &&& BitVec.ofInt 64 4294967295).toNat = (a % 4294967296).toNat := by
    rw [BitVec.toNat_and,ofInt_nat h0 h,ofInt_nat (by decide) (by decide),show (4294967295 : Int).toNat = 2 ^ 32 - 1 by decide,Nat.and_two_pow_sub_one_eq_mod]
    have : (2 : Nat) ^ 32 = 4294967296 := by decide
    rw [this]
    omega
  show (if IntKind.u64 = IntKind.u64 then some (Value.int .u64 (wu ((BitVec.ofInt 64 a &&& BitVec.ofInt 64 4294967295).toNat : Int)),H) else none) = _
  rw [if_pos rfl,e,wu_id (by omega) (by omega)]
  congr 3
  omega
theorem shr_u {k : IntKind} (h0 : 0 ≤ a) (hb : 0 ≤ b) (h : b ≤ 64) : shrR (.int .u64 a) (.int k b) H = some (.int .u64 (a / (2 ^ b.toNat : Nat)),H) := by
  show (if b < 0 then none else some (Value.int .u64 (a.fdiv (2 ^ min b.toNat 64)),H)) = _
  rw [if_neg (by omega),show min b.toNat 64 = b.toNat by omega,Int.fdiv_eq_ediv_of_nonneg _ (Int.pow_nonneg (by decide))]
  congr 4
end
theorem shr_32 {k : IntKind} {a : Int} {H : AHeap} (h0 : 0 ≤ a) : shrR (.int .u64 a) (.int k 32) H = some (.int .u64 (a / 4294967296),H) := shr_u h0 (by decide) (by decide)
theorem shr_16 {k : IntKind} {a : Int} {H : AHeap} (h0 : 0 ≤ a) : shrR (.int .u64 a) (.int k 16) H = some (.int .u64 (a / 65536),H) := shr_u h0 (by decide) (by decide)
theorem shr_8 {k : IntKind} {a : Int} {H : AHeap} (h0 : 0 ≤ a) : shrR (.int .u64 a) (.int k 8) H = some (.int .u64 (a / 256),H) := shr_u h0 (by decide) (by decide)
attribute [go_sem] shr_32 shr_16 shr_8 band_32
attribute [go_sem] r_band r_bor r_shr r_shl r_idxS r_lenS r_strOp r_sliceS lenS_s a_addU a_subU a_mulU c_lssU c_leqU c_gtrU c_geqU c_eqlU c_neqU conv_iu conv_ui conv_8i wu_id
end Go.Lq

namespace Go.Lq
open Go
def flat3 (l : List (Int × Int × Int)) : List Value := l.flatMap fun p => [.int .i64 p.1,.int .i64 p.2.1,.int .i64 p.2.2]
theorem flat3_len (l : List (Int × Int × Int)) : (flat3 l).length = l.length * 3 := by
  induction l with
  | nil => rfl
  | cons p l ih => simp only [flat3,List.flatMap_cons,List.length_append,List.length_cons,List.length_nil] at *; omega
theorem flat3_drop : ∀ (l : List (Int × Int × Int)) (i : Nat),(flat3 l).drop (i * 3) = flat3 (l.drop i)
  | l,0 => by simp
  | [],i + 1 => by simp [flat3]
  | p :: l,i + 1 => by
    have := flat3_drop l i
    rw [Nat.add_mul,Nat.one_mul]
    simpa [flat3] using this
theorem flat3_take3 {l : List (Int × Int × Int)} {i : Nat} (h : i < l.length) : ((flat3 l).drop (i * 3)).take 3 = [.int .i64 (l.getD i (0,0,0)).1,.int .i64 (l.getD i (0,0,0)).2.1,.int .i64 (l.getD i (0,0,0)).2.2] := by
  rw [flat3_drop,drop_getD (d := (0,0,0)) h]; rfl
theorem flat3_at {l : List (Int × Int × Int)} {i k : Nat} (h : i < l.length) (hk : k < 3) :
    (flat3 l).getD (i * 3 + k) undef = [Value.int .i64 (l.getD i (0,0,0)).1,.int .i64 (l.getD i (0,0,0)).2.1,.int .i64 (l.getD i (0,0,0)).2.2].getD k undef := by
  have h2 := flat3_take3 h
  have e : (((flat3 l).drop (i * 3)).take 3)[k]? = ((flat3 l).drop (i * 3))[k]? := by rw [List.getElem?_take,if_pos hk]
  rw [h2,List.getElem?_drop] at e
  rw [List.getD_eq_getElem?_getD,← e]
  exact (List.getD_eq_getElem?_getD ..).symm
def Tris (H : AHeap) (l : List (Int × Int × Int)) (v : Value) : Prop := Sl H 3 l.length (flat3 l) v
section
variable {H H' : AHeap} {l : List (Int × Int × Int)} {v : Value}
theorem Tris.ext (h : Tris H l v) (hx : Ext H H') : Tris H' l v := Sl.ext h hx
theorem Tris.len (h : Tris H l v) {H' : AHeap} : lenR v H' = some (.int .i64 l.length,H') := Sl.len h
theorem Tris.idx (h : Tris H l v) {i : Int} {k : IntKind} {H' : AHeap} (h0 : 0 ≤ i) (h1 : i < l.length) : idxR 3 v (.int k i) H' = some (addrOf v (i.toNat * 3),H') := Sl.idx h h0 h1
theorem Tris.load (h : Tris H l v) (hx : Ext H H') {i : Nat} (hi : i < l.length) :
    loadNR 3 (addrOf v (i * 3)) H' = some (.agg ⟨[.int .i64 (l.getD i (0,0,0)).1,.int .i64 (l.getD i (0,0,0)).2.1,.int .i64 (l.getD i (0,0,0)).2.2]⟩,H') ∧
    loadNR 2 (addrOf v (i * 3 + 1)) H' = some (.agg ⟨[.int .i64 (l.getD i (0,0,0)).2.1,.int .i64 (l.getD i (0,0,0)).2.2]⟩,H') ∧
    faddrR 0 (addrOf v (i * 3)) H' = some (addrOf v (i * 3),H') ∧ faddrR 1 (addrOf v (i * 3)) H' = some (addrOf v (i * 3 + 1),H') ∧ faddrR 2 (addrOf v (i * 3)) H' = some (addrOf v (i * 3 + 2),H') ∧
    faddrR 0 (addrOf v (i * 3 + 1)) H' = some (addrOf v (i * 3 + 1),H') ∧ faddrR 1 (addrOf v (i * 3 + 1)) H' = some (addrOf v (i * 3 + 2),H') ∧
    loadR (addrOf v (i * 3)) H' = some (.int .i64 (l.getD i (0,0,0)).1,H') ∧ loadR (addrOf v (i * 3 + 1)) H' = some (.int .i64 (l.getD i (0,0,0)).2.1,H') ∧ loadR (addrOf v (i * 3 + 2)) H' = some (.int .i64 (l.getD i (0,0,0)).2.2,H') := by
  refine ⟨?_,?_,Sl.faddr h (by omega),Sl.faddr h (by omega),Sl.faddr h (by omega),Sl.faddr h (by omega),Sl.faddr h (by omega),?_,?_,?_⟩
  · rw [Sl.loadN h hx (by omega) (by omega),flat3_take3 hi]
  · rw [Sl.loadN h hx (by omega) (by omega)]
    have e : ((flat3 l).drop (i * 3 + 1)).take 2 = (((flat3 l).drop (i * 3)).take 3).drop 1 := by rw [← List.drop_drop,List.drop_take]
    rw [e,flat3_take3 hi]; rfl
  · rw [Sl.load h hx (by omega)]; have := flat3_at (k := 0) hi (by omega); rw [Nat.add_zero] at this; rw [this]; rfl
  · rw [Sl.load h hx (by omega),flat3_at hi (by omega)]; rfl
  · rw [Sl.load h hx (by omega),flat3_at hi (by omega)]; rfl
end
def OwnT (H0 H : AHeap) (l : List (Int × Int × Int)) (v : Value) : Prop := Own H0 H 3 l.length (flat3 l) v
theorem OwnT.nil (H0 H : AHeap) : OwnT H0 H [] (.slice none 0 0) := Own.nil H0 H 3
theorem OwnT.app {H0 H : AHeap} {l : List (Int × Int × Int)} {v : Value} (h : OwnT H0 H l v) (N : AHeap) : OwnT H0 (H ++ N) l v := Own.app h N
def pushTH (H : AHeap) (v : Value) (l : List (Int × Int × Int)) (x : Int × Int × Int) : AHeap := appH (H ++ [.cells true 3 [.int .i64 x.1,.int .i64 x.2.1,.int .i64 x.2.2]]) v 3 (flat3 (l ++ [x]))
theorem OwnT.push {H0 H : AHeap} {l : List (Int × Int × Int)} {v : Value} (h : OwnT H0 H l v) (hb : l.length < 1000000000) (a b c : Int) :
    appendA 3 24 (H ++ [.cells true 3 [.int .i64 a,.int .i64 b,.int .i64 c]]) v (.slice (some ⟨H.length,0,none⟩) 1 1) = some (pushV H l.length,pushTH H v l (a,b,c)) := by
  have := Own.append (bytes := 24) (h.app [.cells true 3 [.int .i64 a,.int .i64 b,.int .i64 c]]) (Sl.last (H := H) (sz := 3) (n := 1) (vs := [.int .i64 a,.int .i64 b,.int .i64 c]) rfl 1) (by omega) rfl (roomOk_of (by omega) (by omega))
  rw [this]
  simp [pushV,pushTH,flat3]
theorem OwnT.pushed {H0 H : AHeap} {l : List (Int × Int × Int)} {v : Value} (h : OwnT H0 H l v) (hx : Ext H0 H) (x : Int × Int × Int) : OwnT H0 (pushTH H v l x) (l ++ [x]) (pushV H l.length) := by
  have := Own.appended (h.app [.cells true 3 [.int .i64 x.1,.int .i64 x.2.1,.int .i64 x.2.2]]) (m := 1) (cs := [.int .i64 x.1,.int .i64 x.2.1,.int .i64 x.2.2]) rfl (by omega) (by have := hx.len; simp; omega)
  unfold OwnT
  simpa [pushV,pushTH,flat3] using this
theorem OwnT.ext {H0 H : AHeap} {l : List (Int × Int × Int)} {v : Value} (h : OwnT H0 H l v) (hx : Ext H0 H) (x : Int × Int × Int) : Ext H0 (pushTH H v l x) :=
  Own.ext (h.app [.cells true 3 [.int .i64 x.1,.int .i64 x.2.1,.int .i64 x.2.2]]) (hx.app _)
theorem Tris.ret {H : AHeap} {l : List (Int × Int × Int)} : Tris (H ++ retN 3 l.length (flat3 l)) l (retV H l.length) := Sl.ret (flat3_len l)
theorem Tris.last {H : AHeap} {l : List (Int × Int × Int)} (c : Nat) : Tris (H ++ [.cells true 3 (flat3 l)]) l (.slice (some ⟨H.length,0,none⟩) l.length c) := Sl.last (flat3_len l) c
section
variable {P : Program} {g : FuncId} {args : List Value} {H : AHeap} {out : List (Int × Int × Int)} {e : Int}
end
/-! ### Maps with pairs as keys -/
def mapGetR (z : Value) (ls : List (Nat × Bool)) (ok : Bool) (m k : Value) (H : AHeap) : Option (Value × AHeap) :=
  match m,k with
  | .map (some id),.agg cs => match H[id]? with
    | some (.map es) => if constOk z = true ∧ keyA ls cs = true then (findA ls cs es 0).map fun r => (gotA z ok r,H) else none
    | _ => none
  | _,_ => none
def mapPutR (ls : List (Nat × Bool)) (m k x : Value) (H : AHeap) : Option (Value × AHeap) :=
  match m,k with
  | .map (some id),.agg cs => match H[id]? with
    | some (.map es) => if keyA ls cs = true then ((findA ls cs es 0).bind fun r => putA es cs x r).map fun es' => (undef,H.set id (.map es')) else none
    | _ => none
  | _,_ => none
theorem r_makeMap {ρ : Operand → Value} {H : AHeap} : ropRun .makeMap ρ H = some (.map (some H.length),H ++ [.map []]) := rfl
theorem r_mapGet {ρ : Operand → Value} {H : AHeap} {z : Value} {ls : List (Nat × Bool)} {ok : Bool} {m k : Operand} : ropRun (.mapGet z ls ok m k) ρ H = mapGetR z ls ok (ρ m) (ρ k) H := rfl
theorem r_mapPut {ρ : Operand → Value} {H : AHeap} {ls : List (Nat × Bool)} {m k x : Operand} : ropRun (.mapPut ls m k x) ρ H = mapPutR ls (ρ m) (ρ k) (ρ x) H := rfl
attribute [go_sem] r_makeMap r_mapGet r_mapPut
theorem r_appendF {ρ : Operand → Value} {H : AHeap} {size bytes : Nat} {x y : Operand} : ropRun (.appendF size bytes x y) ρ H = appendF size bytes H (ρ x) (ρ y) := rfl
theorem appendF_nil {H : AHeap} {size bytes : Nat} {w : Value} : appendF size bytes H (.slice none 0 0) w = appendA size bytes H (.slice none 0 0) w := rfl
theorem appendF_empty {H : AHeap} {size bytes : Nat} {a : Addr} {w : Value} : appendF size bytes H (.slice (some a) 0 0) w = appendA size bytes H (.slice (some a) 0 0) w := rfl
attribute [go_sem] r_appendF appendF_nil appendF_empty
end Go.Lq

namespace Go.Lq
open Go
section
variable {P : Program} {β : Beta} {H : AHeap} {base : Nat} {w w' : World} {f : FuncId} {args : List Value} {Q : Value → AHeap → Prop}
theorem Inj.below (hi : Inj P β H base w) (hb : RowKit.Below w.heap.size w w') : Inj P β H base w' :=
  ⟨Nat.le_trans hi.base_le hb.size,hi.globs,hi.glob,hi.dom,fun id p h => Nat.lt_of_lt_of_le (hi.lt id p h) hb.size,fun id p h => (hi.obj id p h).same (hb.block _ (hi.lt id p h)),hi.own⟩
theorem VRs.one {x : Value} {ys : List Value} (h : VRs β [x] ys) : ∃ y,ys = [y] ∧ VR β x y := by
  obtain ⟨hl,hv⟩ := h
  match ys,hl with
  | [y],_ => exact ⟨y,rfl,hv 0 x y rfl rfl⟩
theorem VRs.two {x x' : Value} {ys : List Value} (h : VRs β [x,x'] ys) : ∃ y y',ys = [y,y'] ∧ VR β x y ∧ VR β x' y' := by
  obtain ⟨hl,hv⟩ := h
  match ys,hl with
  | [y,y'],_ => exact ⟨y,y',rfl,hv 0 x y rfl rfl,hv 1 x' y' rfl rfl⟩
theorem VR.str {s : ByteArray} {y : Value} (h : VR β (.string s) y) : y = .string s := by cases h; rfl
end
end Go.Lq

namespace Go.Lq
open Go
def bs (l : List UInt8) : ByteArray := ⟨l.toArray⟩
theorem bs_lit (l : List UInt8) : ByteArray.mk (List.toArray l) = bs l := rfl
theorem bs_of (s : ByteArray) : s = bs s.data.toList := by cases s; simp [bs]
theorem bs_data (l : List UInt8) : (bs l).data.toList = l := by simp [bs]
theorem bs_size (l : List UInt8) : (bs l).size = l.length := by simp [bs,ByteArray.size]
theorem bs_append (l m : List UInt8) : bs l ++ bs m = bs (l ++ m) := by
  apply ByteArray.ext
  rw [ByteArray.data_append]
  simp [bs]
theorem bs_extract (l : List UInt8) (a b : Nat) : (bs l).extract a b = bs ((l.take b).drop a) := by
  apply ByteArray.ext
  rw [ByteArray.data_extract]
  simp [bs,List.extract,List.drop_take]
theorem bs_toList (l : List UInt8) : (bs l).toList = l := by rw [ByteArray.toList_eq,bs_data]
theorem bs_get (l : List UInt8) (i : Nat) : (bs l)[i]? = l[i]? := by
  have : (bs l)[i]? = (bs l).data[i]? := by
    simp only [getElem?_def]
    rfl
  rw [this]
  simp [bs]
def at8 (l : List UInt8) (n : Int) : Int := ((l.getD n.toNat 0).toNat : Nat)
theorem at8_nat (l : List UInt8) (i : Nat) : at8 l i = (l.getD i 0).toNat := rfl
section
variable {H : AHeap} {l m : List UInt8} {k k' : IntKind} {a b : Int}
theorem idxS_b (h0 : 0 ≤ a) (h1 : a < l.length) : idxSR (.string (bs l)) (.int k a) H = some (.int .u8 (at8 l a),H) := by
  unfold idxSR idxStr at8
  have h : a.toNat < l.length := by omega
  simp only [bs_get,if_pos h0,List.getElem?_eq_getElem h,Option.map_some,List.getD_eq_getElem?_getD,Option.getD_some]
theorem sliceS_b (h0 : 0 ≤ a) (h1 : a ≤ b) (h2 : b ≤ l.length) : sliceSR (.string (bs l)) (some (.int k a)) (some (.int k' b)) H = some (.string (bs ((l.take b.toNat).drop a.toNat)),H) := by
  unfold sliceSR subS
  simp only [loA,hiA,bs_size,h0,h1,h2,and_self,if_true,Option.map_some,bs_extract]
theorem sliceS_from (h0 : 0 ≤ a) (h1 : a ≤ l.length) : sliceSR (.string (bs l)) (some (.int k a)) none H = some (.string (bs (l.drop a.toNat)),H) := by
  unfold sliceSR subS
  simp only [loA,hiA,bs_size,h0,h1,Int.le_refl,and_self,if_true,Option.map_some,bs_extract,Int.toNat_natCast,List.take_length]
theorem sliceS_to (h0 : 0 ≤ b) (h1 : b ≤ l.length) : sliceSR (.string (bs l)) none (some (.int k b)) H = some (.string (bs (l.take b.toNat)),H) := by
  unfold sliceSR subS
  simp only [loA,hiA,bs_size,h0,h1,Int.le_refl,and_self,if_true,Option.map_some,bs_extract,Int.toNat_zero,List.drop_zero]
theorem add_b (h : l.length + m.length ≤ 9223372036854775807) : strOpR .add (.string (bs l)) (.string (bs m)) H = some (.string (bs (l ++ m)),H) := by
  simp only [strOpR,strA,bs_size,h,if_true,Option.map_some,bs_append]
theorem eql_b : strOpR .eql (.string (bs l)) (.string (bs m)) H = some (.bool (decide (l = m)),H) := by
  simp only [strOpR,strA,Option.map_some,bs_toList]
  by_cases h : l = m <;> simp [h]
theorem neq_b : strOpR .neq (.string (bs l)) (.string (bs m)) H = some (.bool (decide (l ≠ m)),H) := by
  simp only [strOpR,strA,Option.map_some,bs_toList]
  by_cases h : l = m <;> simp [h]
variable {ρ : Operand → Value} {x y : Operand}
def byteSR (x : Value) (H : AHeap) : Option (Value × AHeap) := match x with | .slice (some ⟨id,off,none⟩) n _ => (if n = 1 then (cellAt H id off).bind oneByte else none).map fun v => (v,H) | _ => none
theorem r_byteS : ropRun (.byteS x) ρ H = byteSR (ρ x) H := rfl
theorem byteS_1 {c e : Nat} {n : Int} {o : Bool} : byteSR (.slice (some ⟨H.length,0,none⟩) 1 c) (H ++ [.cells o e [.int .u8 n]]) = some (.string (bs [UInt8.ofNat n.toNat]),H ++ [.cells o e [.int .u8 n]]) := by
  unfold byteSR cellAt
  simp only [List.getElem?_append_right (Nat.le_refl _),Nat.sub_self,List.getElem?_cons_zero,if_true,Option.bind_some,oneByte,Option.map_some]
  rfl
def eqvI (neg : Bool) (x y : Value) (H : AHeap) : Option (Value × AHeap) := (eqvA 4 x y).map fun b => (.bool (neg != b),H)
theorem r_eqvI {neg : Bool} : ropRun (.eqv 4 neg x y) ρ H = eqvI neg (ρ x) (ρ y) H := rfl
theorem eqvI_n : eqvI false .nilIface .nilIface H = some (.bool true,H) := rfl
theorem eqvI_i {t : TypeId} {v : Value} : eqvI false (.iface t v) .nilIface H = some (.bool false,H) := rfl
theorem neqI_n : eqvI true .nilIface .nilIface H = some (.bool false,H) := rfl
theorem neqI_i {t : TypeId} {v : Value} : eqvI true (.iface t v) .nilIface H = some (.bool true,H) := rfl
end
section
variable {P : Program} {ar : Option Nat} {g : Operand} {f : FuncId} {xs ys : List Value} {ps : List Nat} {assign body : RCode} {Q : AExit → Env → AHeap → Prop} {env : Env} {H : AHeap} {Fact : AHeap → Prop} {items : List (List Value)} {k : Nat} {c0 : AObj}
end
end Go.Lq

namespace Go.Lq
open Go
def strs (ll : List (List UInt8)) : List Value := ll.map fun l => .string (bs l)
theorem closed_strs (ll : List (List UInt8)) : ∀ v ∈ strs ll,Closed v := fun v hv => by
  obtain ⟨l,_,rfl⟩ := List.mem_map.1 hv
  exact .string _
theorem fillA_str {cs : List Value} {o : Nat} {s : ByteArray} {rest : List (Nat × Nat × Value)} (h : o < cs.length) : fillA cs ((o,1,.string s) :: rest) = fillA (cs.set o (.string s)) rest := by
  have e : (Value.string s).cells.size = 1 := rfl
  have e2 : (Value.string s).cells.toList = [.string s] := rfl
  have e3 : ([Value.string s].all isAtom) = true := rfl
  have e4 : o + 1 ≤ cs.length := h
  simp only [fillA,e,e2,e3,e4,and_self,if_true,setCells_one cs o _ h]
theorem fillA_ptr {cs : List Value} {o : Nat} {p : Option Addr} {rest : List (Nat × Nat × Value)} (h : o < cs.length) : fillA cs ((o,1,.pointer p) :: rest) = fillA (cs.set o (.pointer p)) rest := by
  have e : (Value.pointer p).cells.size = 1 := rfl
  have e2 : (Value.pointer p).cells.toList = [.pointer p] := rfl
  have e3 : ([Value.pointer p].all isAtom) = true := rfl
  have e4 : o + 1 ≤ cs.length := h
  simp only [fillA,e,e2,e3,e4,and_self,if_true,setCells_one cs o _ h]
theorem isAtom_pointer {p : Option Addr} : isAtom (.pointer p) = true := rfl
theorem constOk_ptrNil : constOk (.pointer none) = true := rfl
theorem isAtom_string {s : ByteArray} : isAtom (.string s) = true := rfl
theorem constOk_string {s : ByteArray} : constOk (.string s) = true := rfl
def Txts (H : AHeap) (ll : List (List UInt8)) (v : Value) : Prop := Sl H 1 ll.length (strs ll) v
section
variable {H H' : AHeap} {l : List (List UInt8)} {v : Value}
theorem Txts.ext (h : Txts H l v) (hx : Ext H H') : Txts H' l v := Sl.ext h hx
theorem Txts.len (h : Txts H l v) {H' : AHeap} : lenR v H' = some (.int .i64 l.length,H') := Sl.len h
theorem Txts.idx (h : Txts H l v) {i : Int} {k : IntKind} {H' : AHeap} (h0 : 0 ≤ i) (h1 : i < l.length) : idxR 1 v (.int k i) H' = some (addrOf v i.toNat,H') := by
  have := Sl.idx h (k := k) (H' := H') h0 h1
  simpa using this
theorem Txts.load (h : Txts H l v) (hx : Ext H H') {k : Nat} (hk : k < l.length) : loadR (addrOf v k) H' = some (.string (bs (l.getD k [])),H') := by
  rw [Sl.load h hx (by omega)]
  simp [hk,strs]
theorem Txts.cell (h : Txts H l v) {k : Nat} (hk : k < l.length) : ∃ id off c,v = .slice (some ⟨id,off,none⟩) l.length c ∧ cellAt H id (off + k) = some (.string (bs (l.getD k []))) := by
  rcases h.2 with ⟨_,h0⟩ | ⟨id,off,c,e,hc⟩
  · omega
  refine ⟨id,off,c,e,?_⟩
  have hc := hc (by omega)
  unfold cellsAt at hc
  unfold cellAt
  split at hc
  · rename_i o esz vs hh
    split at hc
    · rename_i hle
      simp only [Option.some.injEq] at hc
      have e1 : ((vs.drop off).take (l.length * 1))[k]? = (strs l)[k]? := by rw [hc]
      rw [List.getElem?_take_of_lt (by omega),List.getElem?_drop] at e1
      rw [e1]
      simp [strs,hk]
    · cases hc
  · cases hc
end
def OwnS (H0 H : AHeap) (l : List (List UInt8)) (v : Value) : Prop := Own H0 H 1 l.length (strs l) v
theorem OwnS.nil (H0 H : AHeap) : OwnS H0 H [] (.slice none 0 0) := Own.nil H0 H 1
theorem OwnS.txts {H0 H : AHeap} {l : List (List UInt8)} {v : Value} (h : OwnS H0 H l v) : Txts H l v := Own.sl h
theorem OwnS.app {H0 H : AHeap} {l : List (List UInt8)} {v : Value} (h : OwnS H0 H l v) (N : AHeap) : OwnS H0 (H ++ N) l v := Own.app h N
def pushHS (H : AHeap) (v : Value) (l : List (List UInt8)) (x : List UInt8) : AHeap := appH (H ++ [.cells true 1 [.string (bs x)]]) v 1 (strs (l ++ [x]))
theorem OwnS.push {H0 H : AHeap} {l : List (List UInt8)} {v : Value} (h : OwnS H0 H l v) (hb : l.length < 1000000000) (x : List UInt8) :
    appendA 1 16 (H ++ [.cells true 1 [.string (bs x)]]) v (.slice (some ⟨H.length,0,none⟩) 1 1) = some (pushV H l.length,pushHS H v l x) := by
  have := Own.append (bytes := 16) (h.app [.cells true 1 [.string (bs x)]]) (Sl.last (H := H) (sz := 1) (n := 1) (vs := [.string (bs x)]) rfl 1) (by omega) rfl (roomOk_of (by omega) (by omega))
  rw [this]
  simp [pushV,pushHS,strs]
theorem OwnS.pushed {H0 H : AHeap} {l : List (List UInt8)} {v : Value} (h : OwnS H0 H l v) (hx : Ext H0 H) (x : List UInt8) : OwnS H0 (pushHS H v l x) (l ++ [x]) (pushV H l.length) := by
  have := Own.appended (h.app [.cells true 1 [.string (bs x)]]) (m := 1) (cs := [.string (bs x)]) rfl (by omega) (by have := hx.len; simp; omega)
  unfold OwnS
  simpa [pushV,pushHS,strs] using this
theorem OwnS.ext {H0 H : AHeap} {l : List (List UInt8)} {v : Value} (h : OwnS H0 H l v) (hx : Ext H0 H) (x : List UInt8) : Ext H0 (pushHS H v l x) :=
  Own.ext (h.app [.cells true 1 [.string (bs x)]]) (hx.app _)
def TxtsRet (H : AHeap) (out : List (List UInt8)) (v : Value) (H1 : AHeap) : Prop := v = retV H out.length ∧ H1 = H ++ retN 1 out.length (strs out)
section
variable {P : Program} {g : FuncId} {args : List Value} {H : AHeap} {out : List (List UInt8)}
theorem ACall.txts (h : ACall P g args H fun v H1 => Ext H H1 ∧ OwnS H H1 out v) : ACall P g args H (TxtsRet H out) :=
  ACall.tidy (f := id) wraps_id (closed_strs out) (h.mono fun v _ ⟨h1,h2⟩ => ⟨v,rfl,h1,h2⟩)
theorem Txts.ret : Txts (H ++ retN 1 out.length (strs out)) out (retV H out.length) := Sl.ret (by simp [strs])
end
end Go.Lq
