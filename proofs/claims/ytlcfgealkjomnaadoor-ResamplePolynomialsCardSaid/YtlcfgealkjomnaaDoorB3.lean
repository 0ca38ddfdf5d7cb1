/- Towards ResamplePolynomials of seat YtlcfgealkjomnaaDoor: it returns true for every input. Made out of the proof's own texts, merged. -/
import Derived.Test.YtlcfgealkjomnaaDoorB2
set_option linter.unusedSimpArgs false
namespace Go.Lq
open Go

/-- All numbers of pairs fit. -/
def InP (l : List (Int × Int)) : Prop := ∀ i : Nat, InI64 (l.getD i (0, 0)).1 ∧ InI64 (l.getD i (0, 0)).2

theorem pairs_of : ∀ (n : Nat) (cs : List Value), cs.length = n * 2 → (∀ i, i < n → ∃ a b, (cs.drop (i * 2)).take 2 = [.int .i64 a, .int .i64 b] ∧ InI64 a ∧ InI64 b) →
    ∃ l : List (Int × Int), l.length = n ∧ cs = flatP l ∧ InP l
  | 0, cs, hl, _ => ⟨[], rfl, List.length_eq_zero_iff.1 (by omega), fun i => by simp [InI64]⟩
  | n + 1, cs, hl, h => by
    obtain ⟨a, b, e, ha, hb⟩ := h 0 (by omega)
    match cs, hl with
    | x :: y :: r, hl =>
      simp at e
      obtain ⟨rfl, rfl⟩ := e
      obtain ⟨l, h1, h2, h3⟩ := pairs_of n r (by simp at hl; omega) fun i hi => by
        obtain ⟨c, d, e, hc, hd⟩ := h (i + 1) (by omega)
        refine ⟨c, d, ?_, hc, hd⟩
        rw [← e, Nat.add_mul, Nat.one_mul]
        rfl
      refine ⟨(a, b) :: l, by simp [h1], by rw [h2]; rfl, fun i => ?_⟩
      cases i with
      | zero => exact ⟨ha, hb⟩
      | succ i => simpa using h3 i
    | [], hl => simp at hl
    | [x], hl => simp at hl; omega

section
variable {P : Program} {H : AHeap} {t e : TypeId} {v : Value}

theorem Rep.pair {fs : Array Field} {f0 f1 : Field} (he : P.underlying e = some (.struct fs)) (hc : P.cellsOf e = 2) (h0 : fs[0]? = some f0) (h1 : fs[1]? = some f1) (o0 : f0.offset = 0) (o1 : f1.offset = 1)
    (t0 : P.underlying f0.type = some (.int .i64)) (t1 : P.underlying f1.type = some (.int .i64)) (c0 : P.cellsOf f0.type = 1) (c1 : P.cellsOf f1.type = 1) {vs : List Value} (h : Rep P H e vs) :
    ∃ a b, vs = [.int .i64 a, .int .i64 b] ∧ InI64 a ∧ InI64 b := by
  obtain ⟨hl, hf⟩ := h.struct_inv he
  obtain ⟨a, ea, wa⟩ := (hf 0 f0 h0).int_inv t0
  obtain ⟨b, eb, wb⟩ := (hf 1 f1 h1).int_inv t1
  rw [o0, c0] at ea
  rw [o1, c1] at eb
  rw [hc] at hl
  match vs, hl with
  | [x, y], _ =>
    simp at ea eb
    subst ea; subst eb
    exact ⟨a, b, rfl, wf_i64 wa, wf_i64 wb⟩

theorem RepA.pairs {fs : Array Field} {f0 f1 : Field} (ht : P.underlying t = some (.slice e)) (he : P.underlying e = some (.struct fs)) (hc : P.cellsOf e = 2) (h0 : fs[0]? = some f0) (h1 : fs[1]? = some f1) (o0 : f0.offset = 0) (o1 : f1.offset = 1)
    (t0 : P.underlying f0.type = some (.int .i64)) (t1 : P.underlying f1.type = some (.int .i64)) (c0 : P.cellsOf f0.type = 1) (c1 : P.cellsOf f1.type = 1) (h : RepA P H t v) :
    ∃ l, Pairs H l v ∧ l.length ≤ maxLen ∧ InP l := by
  obtain ⟨v', n, cs, e1, hs, hn, hf⟩ := (h.flat (fun _ e => by rw [ht] at e; cases e) (fun _ _ e => by rw [ht] at e; cases e)).slice_inv ht
  cases e1
  rw [hc] at hs hf
  obtain ⟨l, l1, l2, l3⟩ := pairs_of n cs hs.1 fun i hi => (hf i hi).pair he hc h0 h1 o0 o1 t0 t1 c0 c1
  subst l1
  refine ⟨l, ?_, hn, l3⟩
  unfold Pairs
  rw [← l2]
  exact hs
end
end Go.Lq
namespace Go.Lq
open Go
def idxAR (len size : Nat) (x i : Value) (H : AHeap) : Option (Value × AHeap) :=
  match x, i with
  | .pointer (some ⟨id, off, none⟩), .int _ n => if 0 ≤ n ∧ n < len then some (.pointer (some ⟨id, off + n.toNat * size, none⟩), H) else none
  | _, _ => none
theorem r_idxA {ρ : Operand → Value} {H : AHeap} {len size : Nat} {x y : Operand} : ropRun (.idxAddrA len size x y) ρ H = idxAR len size (ρ x) (ρ y) H := rfl
theorem idxA_at {len size id off : Nat} {n : Nat} {k : IntKind} {H : AHeap} (h : n < len) : idxAR len size (.pointer (some ⟨id, off, none⟩)) (.int k (n : Int)) H = some (.pointer (some ⟨id, off + n * size, none⟩), H) := by
  simp only [idxAR]
  rw [if_pos ⟨by omega, by omega⟩]
  simp
end Go.Lq

namespace Go.Lq
open Go

/-- A slice whose cells are slices of numbers. -/
def Lists (H : AHeap) (ll : List (List Int)) (vs : List Value) (v : Value) : Prop := Sl H 1 ll.length vs v ∧ ∀ i, i < ll.length → Ints H (ll.getD i []) (vs.getD i undef)

section
variable {H H' H0 : AHeap} {ll : List (List Int)} {vs : List Value} {v : Value}
theorem Lists.ext (h : Lists H ll vs v) (hx : Ext H H') : Lists H' ll vs v := ⟨h.1.ext hx, fun i hi => (h.2 i hi).ext hx⟩
theorem Lists.len (h : Lists H ll vs v) {H' : AHeap} : lenR v H' = some (.int .i64 ll.length, H') := Sl.len h.1
theorem Lists.idx (h : Lists H ll vs v) {i : Int} {k : IntKind} {H' : AHeap} (h0 : 0 ≤ i) (h1 : i < ll.length) : idxR 1 v (.int k i) H' = some (addrOf v i.toNat, H') := by
  have := Sl.idx h.1 (k := k) (H' := H') h0 h1
  simpa using this
theorem Lists.load (h : Lists H ll vs v) (hx : Ext H H') {k : Nat} (hk : k < ll.length) : loadR (addrOf v k) H' = some (vs.getD k undef, H') := Sl.load h.1 hx (by omega)
theorem Lists.row (h : Lists H ll vs v) {k : Nat} (hk : k < ll.length) : Ints H (ll.getD k []) (vs.getD k undef) := h.2 k hk

/-- Rows of the call's own, at other places than the slice of them. -/
def OwnL (H0 H : AHeap) (ll : List (List Int)) (v : Value) : Prop := ∃ vs, Own H0 H 1 ll.length vs v ∧
  (∀ i, i < ll.length → ∃ id, vs.getD i undef = .slice (some ⟨id, 0, none⟩) (ll.getD i []).length (ll.getD i []).length ∧ idOf v ≠ id ∧ H0.length ≤ id ∧ H[id]? = some (.cells true 1 ((ll.getD i []).map (.int .i64)))) ∧
  ∀ i j, i < j → j < ll.length → idOf (vs.getD i undef) ≠ idOf (vs.getD j undef)
theorem OwnL.nil (H0 H : AHeap) : OwnL H0 H [] (.slice none 0 0) := ⟨[], Own.nil H0 H 1, fun i hi => absurd hi (by simp), fun i j _ hj => absurd hj (by simp)⟩
theorem OwnL.push (h : OwnL H0 H ll v) (hx : Ext H0 H) (hb : ll.length < 1000000000) (l : List Int) :
    ∃ v' H', appendA 1 24 (H ++ [.cells true 1 (l.map (.int .i64))] ++ [.cells true 1 [.slice (some ⟨H.length, 0, none⟩) l.length l.length]]) v (.slice (some ⟨(H ++ [AObj.cells true 1 (l.map (.int .i64))]).length, 0, none⟩) 1 1) = some (v', H') ∧
      OwnL H0 H' (ll ++ [l]) v' ∧ Ext H0 H' := by
  obtain ⟨vs, ho, hr, hd⟩ := h
  generalize hG : H ++ [AObj.cells true 1 (l.map (.int .i64))] ++ [.cells true 1 [.slice (some ⟨H.length, 0, none⟩) l.length l.length]] = G
  have hoG : Own H0 G 1 ll.length vs v := by rw [← hG]; exact (ho.app _).app _
  have hxG : Ext H0 G := by rw [← hG]; exact (hx.app _).app _
  have hxl := hx.len
  have hGl : G.length = H.length + 2 := by rw [← hG]; simp
  have hw : Sl G 1 1 [.slice (some ⟨H.length, 0, none⟩) l.length l.length] (.slice (some ⟨(H ++ [AObj.cells true 1 (l.map (.int .i64))]).length, 0, none⟩) 1 1) := by rw [← hG]; exact Sl.last rfl 1
  have happ := Own.append (bytes := 24) hoG hw (by omega) rfl (roomOk_of (by omega) (by omega))
  refine ⟨_, _, happ, ⟨vs ++ [.slice (some ⟨H.length, 0, none⟩) l.length l.length], ?_, fun i hi => ?_, fun i j hij hj => ?_⟩, Own.ext hoG hxG⟩
  · have := Own.appended hoG (m := 1) (cs := [.slice (some ⟨H.length, 0, none⟩) l.length l.length]) rfl (by omega) (by omega)
    simpa using this
  · have hvl : vs.length = ll.length := by have := ho.1; omega
    have keep : ∀ (id : Nat) (c : AObj), (v = .slice none 0 0 ∨ idOf v ≠ id) → G[id]? = some c → (appH G v 1 (vs ++ [.slice (some ⟨H.length, 0, none⟩) l.length l.length]))[id]? = some c := fun id c hne hc => by
      unfold appH
      rcases hoG.2 with ⟨rfl, _⟩ | ⟨id0, rfl, _, _, _⟩
      · exact at_app hc
      · refine at_app ?_
        rw [List.getElem?_set_ne (by simpa [idOf] using hne)]; exact hc
    by_cases hil : i < ll.length
    · obtain ⟨id, e, hne, hge, hc⟩ := hr i hil
      have hlt : id < H.length := (List.getElem?_eq_some_iff.1 hc).1
      refine ⟨id, ?_, ?_, hge, ?_⟩
      · rw [getD_append_lt (by omega), getD_append_lt hil]; exact e
      · show G.length ≠ id
        omega
      · rw [getD_append_lt hil]
        refine keep id _ (.inr hne) ?_
        rw [← hG, List.append_assoc]; exact at_app hc
    · have hi' : i = ll.length := by simp at hi; omega
      subst hi'
      refine ⟨H.length, ?_, ?_, hxl, ?_⟩
      · rw [getD_append_last, ← hvl, getD_append_last]
      · show G.length ≠ H.length
        omega
      · rw [getD_append_last]
        refine keep H.length _ ?_ ?_
        · rcases ho.2 with ⟨rfl, h0⟩ | ⟨id0, rfl, _, _, hc⟩
          · exact .inl rfl
          · have := (List.getElem?_eq_some_iff.1 hc).1
            refine .inr ?_
            show id0 ≠ H.length
            omega
        · rw [← hG]; exact at_app at_new
  · have hvl : vs.length = ll.length := by have := ho.1; omega
    have hj' : j ≤ ll.length := by simp at hj; omega
    have hil : i < ll.length := by omega
    rw [getD_append_lt (by omega)]
    by_cases hjl : j < ll.length
    · rw [getD_append_lt (by omega)]
      exact hd i j hij hjl
    · have : j = vs.length := by omega
      subst this
      rw [getD_append_last]
      obtain ⟨id, e, hne, hge, hc⟩ := hr i hil
      have hlt : id < H.length := (List.getElem?_eq_some_iff.1 hc).1
      rw [e]
      show id ≠ H.length
      omega

/-- A change below leaves them. -/
theorem OwnL.set (h : OwnL H0 H ll v) {k : Nat} (hk : k < H0.length) (c : AObj) : OwnL H0 (H.set k c) ll v := by
  obtain ⟨vs, ho, hr, hd⟩ := h
  refine ⟨vs, ⟨ho.1, ho.2.imp_right fun ⟨id, e, h1, h2, hc⟩ => ⟨id, e, h1, h2, ?_⟩⟩, fun i hi => ?_, hd⟩
  · obtain ⟨id, e, hne, hge, hc⟩ := hr i hi
    refine ⟨id, e, hne, hge, ?_⟩
    rw [List.getElem?_set_ne (by omega)]; exact hc
  · rw [List.getElem?_set_ne (by omega)]; exact hc

theorem fin_l1 {c : RCode} {n a m : Nat} {R : Value → AHeap → Prop} {e : Env} {H : AHeap} {u : Value} (h1 : loadNR m (e.getD a undef) H = some (u, H)) (h : R u H) :
    Fin ⟨c, n, [.loadN m a]⟩ R .ret e H := by
  refine ⟨.inr rfl, _, ?_, h⟩
  unfold loadNR at h1
  split at h1
  · rename_i id off hp
    simp only [Option.map_eq_some_iff, Prod.mk.injEq, and_true] at h1
    obtain ⟨us, h2, rfl⟩ := h1
    simp only [resultA, List.mapM_cons, resA, hp, h2, Option.map_some, List.mapM_nil]
    rfl
  · cases h1
end
end Go.Lq

namespace Go.Lq
open Go

/-- The generator f with these captured values hands items over one by one, until a round ends the range. -/
def GenA (P : Program) (f : FuncId) (xs ys : List Value) (Fact : AHeap → Prop) (items : List (List Value)) : Prop :=
  ∀ (l : Nat) (I : List (List Value) → AHeap → Prop) (S : AHeap → Prop) (H : AHeap), (∀ rest H, I rest H → Fact H) →
    (∀ a rest H, I (a :: rest) H → ARound P l a H fun v H' => (v = .bool true ∧ I rest H') ∨ (v = .bool false ∧ S H')) → I items H → ACall P f (xs ++ [.func (.yield l) #[] #[]] ++ ys) H fun _ H' => I [] H' ∨ S H'

theorem GenA.mono {P : Program} {f : FuncId} {xs ys : List Value} {F F' : AHeap → Prop} {items : List (List Value)} (h : GenA P f xs ys F items) (hf : ∀ H, F' H → F H) : GenA P f xs ys F' items :=
  fun l I S H h1 h2 h3 => h l I S H (fun rest H hi => hf H (h1 rest H hi)) h2 h3

section
variable {P : Program} {ar : Option Nat} {g : Operand} {f : FuncId} {xs ys : List Value} {ps : List Nat} {assign body : RCode} {Q : AExit → Env → AHeap → Prop} {env : Env} {H : AHeap} {Fact : AHeap → Prop} {items : List (List Value)}

theorem get_set_self {H : AHeap} {l : Nat} {c d : AObj} (h : H[l]? = some c) : (H.set l d)[l]? = some d := by
  rw [List.getElem?_set_self (List.getElem?_eq_some_iff.1 h).1]
end

/-- But for k, what lay in the first heap lies in the second one. -/
def Keeps (k : Nat) (G H : AHeap) : Prop := G.length ≤ H.length ∧ ∀ i, i < G.length → i ≠ k → H[i]? = G[i]?
theorem Keeps.app {k : Nat} {G H : AHeap} (h : Keeps k G H) (N : AHeap) : Keeps k G (H ++ N) :=
  ⟨by have := h.1; simp; omega, fun i hi hk => by rw [List.getElem?_append_left (by have := h.1; omega)]; exact h.2 i hi hk⟩
theorem Keeps.set {k j : Nat} {G H : AHeap} (h : Keeps k G H) (hj : j = k ∨ G.length ≤ j) (c : AObj) : Keeps k G (H.set j c) :=
  ⟨by simpa using h.1, fun i hi hk => by rw [List.getElem?_set_ne (by omega)]; exact h.2 i hi hk⟩
theorem Keeps.get {k : Nat} {G H : AHeap} (h : Keeps k G H) {i : Nat} {c : AObj} (hi : G[i]? = some c) (hk : i ≠ k) : H[i]? = some c := by
  rw [h.2 i (List.getElem?_eq_some_iff.1 hi).1 hk]; exact hi
theorem ext_of_get {H0 H : AHeap} (hl : H0.length ≤ H.length) (h : ∀ i, i < H0.length → H[i]? = H0[i]?) : Ext H0 H := by
  refine ⟨H.drop H0.length, List.ext_getElem? fun i => ?_⟩
  by_cases hi : i < H0.length
  · rw [List.getElem?_append_left hi]; exact h i hi
  · rw [List.getElem?_append_right (by omega), List.getElem?_drop]
    congr 1; omega
theorem Keeps.ext {k : Nat} {H0 G H : AHeap} (h : Keeps k G H) (hx : Ext H0 G) (hk : H0.length ≤ k) : Ext H0 H :=
  ext_of_get (by have := hx.len; have := h.1; omega) fun i hi => by rw [h.2 i (by have := hx.len; omega) (by omega)]; exact hx.get hi
theorem Keeps.trans {k : Nat} {G H H' : AHeap} (h : Keeps k G H) (h' : Ext H H') : Keeps k G H' := by obtain ⟨N, rfl⟩ := h'; exact h.app N
theorem appH_at {H : AHeap} {v : Value} {sz : Nat} {vs : List Value} {i : Nat} (hi : i < H.length) (hv : v = .slice none 0 0 ∨ idOf v ≠ i) : (appH H v sz vs)[i]? = H[i]? := by
  unfold appH
  split
  · rename_i a n c
    rw [List.getElem?_append_left (by simpa using hi), List.getElem?_set_ne]
    rcases hv with h | h
    · cases h
    · exact h
  · rw [List.getElem?_append_left hi]
end Go.Lq
namespace Go.Lq
open Go
theorem Own.set_ne {H0 H : AHeap} {sz n : Nat} {vs : List Value} {v : Value} (h : Own H0 H sz n vs v) {j : Nat} (hj : n = 0 ∨ idOf v ≠ j) (c : AObj) : Own H0 (H.set j c) sz n vs v :=
  ⟨h.1, h.2.imp_right fun ⟨id, e, h1, h2, hc⟩ => ⟨id, e, h1, h2, by
    subst e
    rw [List.getElem?_set_ne (by rcases hj with h | h; omega; exact fun e => h (by simpa [idOf] using e.symm))]; exact hc⟩⟩
theorem OwnI.set_ne {H0 H : AHeap} {l : List Int} {v : Value} (h : OwnI H0 H l v) {j : Nat} (hj : l.length = 0 ∨ idOf v ≠ j) (c : AObj) : OwnI H0 (H.set j c) l v := Own.set_ne h hj c
theorem pushH_at {H : AHeap} {v : Value} {l : List Int} {x : Int} {i : Nat} {c : AObj} (h : H[i]? = some c) (hv : v = .slice none 0 0 ∨ idOf v ≠ i) : (pushH H v l x)[i]? = some c := by
  have hi := (List.getElem?_eq_some_iff.1 h).1
  unfold pushH
  rw [appH_at (by simp; omega) hv, List.getElem?_append_left hi]; exact h
theorem pushH_len {H : AHeap} {v : Value} {l : List Int} {x : Int} : (pushH H v l x).length = H.length + 2 := by unfold pushH; rw [appH_len]; simp
theorem OwnI.nil_or {H0 H : AHeap} {l : List Int} {v : Value} (h : OwnI H0 H l v) {i : Nat} (hi : l.length = 0 ∨ idOf v ≠ i) : v = .slice none 0 0 ∨ idOf v ≠ i := by
  rcases h.2 with ⟨rfl, _⟩ | ⟨id, rfl, _, h0, _⟩
  · exact .inl rfl
  · exact .inr (by rcases hi with h | h; omega; exact h)
end Go.Lq

namespace Go.Lq
open Go

def mkSliceR (bytes : Nat) (zero : List Value) (l c : Value) (H : AHeap) : Option (Value × AHeap) :=
  match l, c with
  | .int .i64 a, .int .i64 b =>
    if 0 ≤ a ∧ a ≤ b ∧ roomOk bytes b.toNat = true ∧ zero.all isAtom = true ∧ zero.all constOk = true then
      some (.slice (some ⟨H.length, 0, none⟩) a.toNat (if b = 0 then 0 else if a = 0 then 2 else a.toNat), H ++ [.cells true zero.length (zeroRow zero (a.toNat * zero.length))])
    else none
  | _, _ => none
theorem r_mkSlice {ρ : Operand → Value} {H : AHeap} {bytes : Nat} {zero : List Value} {x y : Operand} : ropRun (.mkSlice bytes zero x y) ρ H = mkSliceR bytes zero (ρ x) (ρ y) H := rfl
attribute [go_sem] r_mkSlice
theorem getD_set {α : Type} {l : List α} {d x : α} {i j : Nat} (hi : i < l.length) : (l.set i x).getD j d = if j = i then x else l.getD j d := by
  rw [List.getD_eq_getElem?_getD, List.getElem?_set, List.getD_eq_getElem?_getD]
  by_cases h : i = j
  · subst h; simp [hi]
  · rw [if_neg h, if_neg (fun e => h e.symm)]

theorem Ext.cell {H H' : AHeap} (h : Ext H H') {i : Nat} {c : AObj} (hc : H[i]? = some c) : H'[i]? = some c := (h.get (List.getElem?_eq_some_iff.1 hc).1).trans hc
end Go.Lq

namespace Go.Lq
open Go

def rowVs (k : Nat) (ll : List (List Int)) : List Value := (List.range ll.length).map fun i => .slice (some ⟨k + i, 0, none⟩) (ll.getD i []).length (ll.getD i []).length
def rowOs (ll : List (List Int)) : AHeap := ll.map fun l => .cells true 1 (l.map (.int .i64))
def retLV (H : AHeap) (ll : List (List Int)) : Value := if ll.length = 0 then .slice none 0 0 else .slice (some ⟨H.length + ll.length, 0, none⟩) ll.length ll.length
def retLN (H : AHeap) (ll : List (List Int)) : AHeap := if ll.length = 0 then [] else rowOs ll ++ [.cells true 1 (rowVs H.length ll)]

theorem rowOs_at {H N : AHeap} {ll : List (List Int)} {i : Nat} (hi : i < ll.length) : (H ++ (rowOs ll ++ N))[H.length + i]? = some (.cells true 1 ((ll.getD i []).map (.int .i64))) := by
  rw [List.getElem?_append_right (by omega), Nat.add_sub_cancel_left, List.getElem?_append_left (by simpa [rowOs] using hi), rowOs, List.getElem?_map, List.getElem?_eq_getElem hi, List.getD_eq_getElem?_getD, List.getElem?_eq_getElem hi]
  rfl
theorem rowOs_last {H : AHeap} {ll : List (List Int)} {c : AObj} : (H ++ (rowOs ll ++ [c]))[H.length + ll.length]? = some c := by
  have : (rowOs ll).length = ll.length := by simp [rowOs]
  rw [List.getElem?_append_right (by omega), Nat.add_sub_cancel_left, List.getElem?_append_right (by omega), this, Nat.sub_self]; rfl
theorem OwnL.ret {H0 H : AHeap} {ll : List (List Int)} (hx : H0.length ≤ H.length) : OwnL H0 (H ++ retLN H ll) ll (retLV H ll) := by
  unfold retLN retLV
  by_cases h0 : ll.length = 0
  · obtain rfl := List.length_eq_zero_iff.1 h0
    exact OwnL.nil _ _
  rw [if_neg h0, if_neg h0]
  have hv : ∀ i, i < ll.length → (rowVs H.length ll).getD i undef = .slice (some ⟨H.length + i, 0, none⟩) (ll.getD i []).length (ll.getD i []).length := fun i hi => by
    unfold rowVs
    rw [List.getD_eq_getElem?_getD, List.getElem?_map, List.getElem?_range hi]; rfl
  refine ⟨rowVs H.length ll, ⟨by simp [rowVs], .inr ⟨H.length + ll.length, rfl, by omega, by omega, rowOs_last⟩⟩, fun i hi => ⟨H.length + i, hv i hi, ?_, by omega, rowOs_at hi⟩, fun i j hij hj => ?_⟩
  · show H.length + ll.length ≠ H.length + i
    omega
  · rw [hv i (by omega), hv j hj]
    show H.length + i ≠ H.length + j
    omega

section
variable {P : Program} {g : FuncId} {args : List Value} {H : AHeap} {ll : List (List Int)} {f : Value → Value}
end
end Go.Lq

namespace Go.Lq
open Go

theorem getD_set_ne {α : Type} {l : List α} {d x : α} {i j : Nat} (h : i ≠ j) : (l.set i x).getD j d = l.getD j d := by
  rw [List.getD_eq_getElem?_getD, List.getElem?_set_ne h, List.getD_eq_getElem?_getD]
theorem getD_set_eq {α : Type} {l : List α} {d x : α} {i : Nat} (h : i < l.length) : (l.set i x).getD i d = x := by
  rw [getD_set h, if_pos rfl]
/-- A region by itself: what is wanted of it behind it. -/
theorem awp_mid {P : Program} {ar : Option Nat} {R y : RCode} {Qy Qz : AExit → Env → AHeap → Prop} {env : Env} {H : AHeap} (m : List Bool) (I : Env → AHeap → Prop)
    (h1 : AWP P ar R (fun x e' H' => x = .normal ∧ I (forget m e') H') env H) (h2 : ∀ e H, I e H → AWP P ar y Qy e H) : AWP P ar R (Seq (AWP P ar y Qy) Qz) env H :=
  AWP.mono h1 fun x e' H' ⟨hx, hI⟩ => by subst hx; exact awp_forget m (h2 _ _ hI)

/-- The object k holds rows, at places of their own behind it. -/
structure OwnR (k : Nat) (H : AHeap) (ll : List (List Int)) (vs : List Value) : Prop where
  own : H[k]? = some (.cells true 1 vs)
  len : vs.length = ll.length
  row : ∀ i, i < ll.length → OwnI [] H (ll.getD i []) (vs.getD i undef)
  far : ∀ i, i < ll.length → 0 < (ll.getD i []).length → k < idOf (vs.getD i undef)
  apart : ∀ i j, i ≠ j → i < ll.length → j < ll.length → 0 < (ll.getD i []).length → 0 < (ll.getD j []).length → idOf (vs.getD i undef) ≠ idOf (vs.getD j undef)

section
variable {k : Nat} {H G : AHeap} {ll : List (List Int)} {vs : List Value}

/-- An object that is none of the rows, nor that of the rows. -/
def Aside (k : Nat) (ll : List (List Int)) (vs : List Value) (j : Nat) : Prop := j ≠ k ∧ ∀ i, i < ll.length → 0 < (ll.getD i []).length → idOf (vs.getD i undef) ≠ j

theorem OwnI.same {H0 H H' : AHeap} {l : List Int} {v : Value} (h : OwnI H0 H l v) (hs : 0 < l.length → H'[idOf v]? = H[idOf v]?) : OwnI H0 H' l v := by
  refine ⟨h.1, h.2.imp_right fun ⟨id, e, h1, h2, hc⟩ => ⟨id, e, h1, h2, ?_⟩⟩
  subst e
  have := hs h2
  simp only [idOf] at this
  rw [this]; exact hc
theorem OwnR.lt (h : OwnR k H ll vs) : k < H.length := (List.getElem?_eq_some_iff.1 h.own).1
theorem OwnR.idlt (h : OwnR k H ll vs) {i : Nat} (hi : i < ll.length) (hl : 0 < (ll.getD i []).length) : idOf (vs.getD i undef) < H.length := ((h.row i hi).id_lt hl).2
theorem OwnR.app (h : OwnR k H ll vs) (N : AHeap) : OwnR k (H ++ N) ll vs := ⟨at_app h.own, h.len, fun i hi => (h.row i hi).app N, h.far, h.apart⟩
theorem OwnR.set (h : OwnR k H ll vs) {j : Nat} (hj : Aside k ll vs j) (c : AObj) : OwnR k (H.set j c) ll vs :=
  ⟨by rw [List.getElem?_set_ne hj.1]; exact h.own, h.len, fun i hi => (h.row i hi).same fun hl => by rw [List.getElem?_set_ne (Ne.symm (hj.2 i hi hl))], h.far, h.apart⟩
/-- The slice of the rows. -/
theorem OwnR.sl (h : OwnR k H ll vs) {n c : Nat} (hn : n = ll.length) : Sl H 1 n vs (.slice (some ⟨k, 0, none⟩) n c) := Sl.of h.own (by rw [h.len, hn, Nat.mul_one])
theorem store_cell {k e : Nat} {H : AHeap} {vs : List Value} {v : Value} {i n c : Nat} (h : H[k]? = some (.cells true e vs)) (hi : i < vs.length) (ha : isAtom v = true) (hc : v.cells = ⟨[v]⟩) :
    storeR 1 (addrOf (.slice (some ⟨k, 0, none⟩) n c) i) v H = some (undef, H.set k (.cells true e (vs.set i v))) := by
  have e3 : ([v] : List Value).all isAtom = true := by simp [ha]
  have e4 : (v.cells).toList = [v] := by rw [hc]
  have e5 : (v.cells).size = 1 := by rw [hc]; rfl
  simp only [addrOf, Nat.zero_add, storeR, e5, if_true, storeAt, h, e4, e3, and_true, List.length_cons, List.length_nil]
  rw [if_pos (by omega), setCells_one _ _ _ hi]
  rfl

/-- A number appended to a row. -/
theorem OwnR.push (h : OwnR k H ll vs) {i : Nat} (hi : i < ll.length) (hb : (ll.getD i []).length < 1000000000) (x : Int) :
    ∃ v2 H2, appendA 1 8 (H ++ [.cells true 1 [.int .i64 x]]) (vs.getD i undef) (.slice (some ⟨H.length, 0, none⟩) 1 1) = some (v2, H2) ∧
      (∀ n c, storeR 1 (addrOf (.slice (some ⟨k, 0, none⟩) n c) i) v2 H2 = some (undef, H2.set k (.cells true 1 (vs.set i v2)))) ∧
      OwnR k (H2.set k (.cells true 1 (vs.set i v2))) (ll.set i (ll.getD i [] ++ [x])) (vs.set i v2) ∧ H.length ≤ idOf v2 ∧
      ∀ j c, Aside k ll vs j → H[j]? = some c → (H2.set k (.cells true 1 (vs.set i v2)))[j]? = some c := by
  have hrow := h.row i hi
  have hvi : i < vs.length := by rw [h.len]; exact hi
  have hne : ∀ j, (0 < (ll.getD i []).length → idOf (vs.getD i undef) ≠ j) → vs.getD i undef = .slice none 0 0 ∨ idOf (vs.getD i undef) ≠ j := fun j hj => hrow.nil_or (by
    by_cases h0 : (ll.getD i []).length = 0
    · exact .inl h0
    · exact .inr (hj (by omega)))
  have hself : (pushH H (vs.getD i undef) (ll.getD i []) x)[k]? = some (.cells true 1 vs) := pushH_at h.own (hne k fun hl => by have := h.far i hi hl; omega)
  have hpush := hrow.pushed ⟨H, by simp⟩ x
  refine ⟨pushV H (ll.getD i []).length, pushH H (vs.getD i undef) (ll.getD i []) x, hrow.push hb x, fun n c => store_cell hself hvi rfl rfl, ⟨get_set_self hself, by simp [h.len], fun j hj => ?_, fun j hj hl => ?_, fun a b hab ha hb' ha0 hb0 => ?_⟩, ?_, fun j c hj hc => ?_⟩
  · simp only [List.length_set] at hj
    by_cases hji : j = i
    · subst hji
      rw [getD_set_eq hi, getD_set_eq hvi]
      refine hpush.set_ne (.inr ?_) _
      show H.length + 1 ≠ k
      have := h.lt; omega
    · rw [getD_set_ne (Ne.symm hji), getD_set_ne (Ne.symm hji)]
      refine (h.row j hj).same fun hl => ?_
      have hjl := h.idlt hj hl
      have hjk := h.far j hj hl
      rw [List.getElem?_set_ne (by omega)]
      unfold pushH
      rw [appH_at (by simp only [List.length_append]; omega) (hne _ fun hl2 => h.apart i j (Ne.symm hji) hi hj hl2 hl), List.getElem?_append_left hjl]
  · simp only [List.length_set] at hj
    by_cases hji : j = i
    · subst hji
      rw [getD_set_eq hvi]
      show k < H.length + 1
      have := h.lt; omega
    · rw [getD_set_ne (Ne.symm hji)] at hl ⊢
      exact h.far j hj hl
  · simp only [List.length_set] at ha hb'
    by_cases hai : a = i
    · subst hai
      rw [getD_set_eq hvi, getD_set_ne hab]
      rw [getD_set_ne hab] at hb0
      have := h.idlt hb' hb0
      show H.length + 1 ≠ _
      omega
    · by_cases hbi : b = i
      · subst hbi
        rw [getD_set_eq hvi, getD_set_ne (Ne.symm hai)]
        rw [getD_set_ne (Ne.symm hai)] at ha0
        have := h.idlt ha ha0
        show _ ≠ H.length + 1
        omega
      · rw [getD_set_ne (Ne.symm hai), getD_set_ne (Ne.symm hbi)]
        rw [getD_set_ne (Ne.symm hai)] at ha0
        rw [getD_set_ne (Ne.symm hbi)] at hb0
        exact h.apart a b hab ha hb' ha0 hb0
  · show H.length ≤ H.length + 1
    omega
  · rw [List.getElem?_set_ne (Ne.symm hj.1)]
    exact pushH_at hc (hne j fun hl => hj.2 i hi hl)

theorem OwnR.low (h : OwnR k H ll vs) {j : Nat} (hj : j < k) : Aside k ll vs j := ⟨by omega, fun i hi hl => by have := h.far i hi hl; omega⟩
/-- What lay there before is left. -/
theorem OwnR.keep {H' : AHeap} (h : OwnR k H ll vs) (hx : Ext G H) (hk : G.length ≤ k) (hl : G.length ≤ H'.length) (hs : ∀ j c, Aside k ll vs j → H[j]? = some c → H'[j]? = some c) : Ext G H' :=
  ext_of_get hl fun i hi => by
    rw [← hx.get hi]
    have hlt : i < H.length := by have := hx.len; omega
    rw [List.getElem?_eq_getElem hlt]
    exact hs i _ (h.low (by omega)) (List.getElem?_eq_getElem hlt)
end
end Go.Lq
namespace Go.Lq
open Go
section
variable {H0 H B : AHeap} {ll : List (List Int)} {l : List Int} {v w : Value}
theorem OwnL.app (h : OwnL H0 H ll v) (N : AHeap) : OwnL H0 (H ++ N) ll v := by
  obtain ⟨vs, ho, hr, hd⟩ := h
  exact ⟨vs, ho.app N, fun i hi => by obtain ⟨id, e, h1, h2, h3⟩ := hr i hi; exact ⟨id, e, h1, h2, at_app h3⟩, hd⟩
end
end Go.Lq
namespace Go.Lq
open Go
theorem closed_list {l : List Value} (h : ∀ v ∈ l, Closed v) : ∀ (i : Nat) v, (⟨l⟩ : Array Value)[i]? = some v → Closed v := fun i v hv => h v (List.mem_of_getElem? (by simpa using hv))
end Go.Lq
namespace Go.Lq
open Go
section
variable {P : Program}
theorem AOp.mono {r : ROp} {env : Env} {H : AHeap} {K K' : Value → AHeap → Prop} (h : AOp P r env H K) (hk : ∀ v H', K v H' → K' v H') : AOp P r env H K' := by
  unfold AOp at *
  split at h
  · exact h.mono hk
  · obtain ⟨v, H', h1, h2⟩ := h; exact ⟨v, H', h1, hk _ _ h2⟩
theorem AOps.mono {K K' : Env → AHeap → Prop} (hk : ∀ e H, K e H → K' e H) : ∀ {l : List ROper} {e : Env} {H : AHeap}, AOps P l K e H → AOps P l K' e H
  | [], e, H, h => hk _ _ h
  | o :: l, e, H, ⟨b, h1, h2, h3⟩ => ⟨b, h1, fun hb => (h2 hb).mono fun v H' h => AOps.mono hk h, fun hb => AOps.mono hk (h3 hb)⟩
theorem ADraw.mono {K K' : Env → AHeap → Prop} (hk : ∀ e H, K e H → K' e H) : ∀ {l : List (ROper × Bool)} {B : AHeap} {e : Env} {H : AHeap}, ADraw P l B K e H → ADraw P l B K' e H
  | [], B, e, H, h => hk _ _ h
  | (o, fr) :: l, B, e, H, h => by
    cases hv : isVR o.op && fr with
    | true =>
      rw [adraw_v hv] at h ⊢
      exact AOps.mono hk h
    | false =>
      rw [adraw_n hv] at h ⊢
      obtain ⟨b, h1, h2, h3⟩ := h
      exact ⟨b, h1, fun hb => by obtain ⟨v, H', h4, h5⟩ := h2 hb; exact ⟨v, H', h4, ADraw.mono hk h5⟩, fun hb => ADraw.mono hk (h3 hb)⟩
end
end Go.Lq

namespace Go.Lq
open Go

def flatI (P : Program) : Nat → TypeId → Bool
  | 0, _ => false
  | d + 1, t =>
    match P.underlying t with
    | some (.int .i64) => true
    | some (.struct fs) => offsOk P fs.toList 0 (P.cellsOf t) && fs.toList.all fun f => flatI P d f.type
    | some (.array n e) => decide (n * P.cellsOf e = P.cellsOf t) && flatI P d e
    | _ => false

section
variable {P : Program} {H : AHeap}
theorem ints_fields {cs : List Value} {Q : Value → Prop} : ∀ (fs : List Field) (o : Nat), offsOk P fs o cs.length = true → (∀ f ∈ fs, ∀ v ∈ (cs.drop f.offset).take (P.cellsOf f.type), Q v) → ∀ v ∈ cs.drop o, Q v
  | [], o, ho, _, v, hv => by
    simp only [offsOk, decide_eq_true_eq] at ho
    rw [List.drop_eq_nil_of_le (by omega)] at hv
    cases hv
  | f :: fs, o, ho, h, v, hv => by
    simp only [offsOk, Bool.and_eq_true, decide_eq_true_eq] at ho
    rw [← List.take_append_drop (P.cellsOf f.type) (cs.drop o), List.drop_drop] at hv
    rcases List.mem_append.1 hv with hv | hv
    · exact h f (by simp) v (by rw [ho.1]; exact hv)
    · exact ints_fields fs _ ho.2 (fun g hg => h g (by simp [hg])) v hv
theorem ints_row {cs : List Value} {Q : Value → Prop} {sz : Nat} : ∀ (m o : Nat), cs.length = (o + m) * sz → (∀ i, i < m → ∀ v ∈ (cs.drop ((o + i) * sz)).take sz, Q v) → ∀ v ∈ cs.drop (o * sz), Q v
  | 0, o, hl, _, v, hv => by
    rw [List.drop_eq_nil_of_le (by rw [hl]; simp)] at hv
    cases hv
  | m + 1, o, hl, h, v, hv => by
    rw [← List.take_append_drop sz (cs.drop (o * sz)), List.drop_drop] at hv
    rcases List.mem_append.1 hv with hv | hv
    · exact h 0 (by omega) v (by simpa using hv)
    · refine ints_row m (o + 1) (by rw [hl]; congr 1; omega) (fun i hi v hv => h (i + 1) (by omega) v (by rwa [show o + (i + 1) = o + 1 + i by omega])) v ?_
      rwa [Nat.add_mul, Nat.one_mul]
theorem Rep.allInts : ∀ (d : Nat) (t : TypeId) (cs : List Value), flatI P d t = true → Rep P H t cs → ∀ v ∈ cs, ∃ n, v = .int .i64 n ∧ InI64 n
  | 0, _, _, h, _ => by cases h
  | d + 1, t, cs, hp, hr => by
    simp only [flatI] at hp
    split at hp
    · rename_i ht
      obtain ⟨n, rfl, hw⟩ := hr.int_inv ht
      intro v hv
      simp only [List.mem_cons, List.not_mem_nil, or_false] at hv
      subst hv
      exact ⟨n, rfl, wf_i64 hw⟩
    · rename_i fs ht
      obtain ⟨hl, hf⟩ := hr.struct_inv ht
      simp only [Bool.and_eq_true] at hp
      rw [← hl] at hp
      have := ints_fields (P := P) (cs := cs) (Q := fun v => ∃ n, v = .int .i64 n ∧ InI64 n) fs.toList 0 hp.1 fun f hf' v hv => by
        obtain ⟨i, hi⟩ := List.getElem?_of_mem hf'
        exact Rep.allInts d _ _ (List.all_eq_true.1 hp.2 f hf') (hf i f (by simpa using hi)) v hv
      simpa using this
    · rename_i n e ht
      obtain ⟨hl, hf⟩ := hr.array_inv ht
      simp only [Bool.and_eq_true, decide_eq_true_eq] at hp
      have := ints_row (cs := cs) (Q := fun v => ∃ n, v = .int .i64 n ∧ InI64 n) (sz := P.cellsOf e) n 0 (by rw [hl, ← hp.1]; simp) fun i hi v hv => Rep.allInts d _ _ hp.2 (hf i hi) v (by simpa using hv)
      simpa using this
    · cases hp
theorem cells_ints {cs : List Value} (h : ∀ v ∈ cs, ∃ n, v = .int .i64 n ∧ InI64 n) : ∃ l : List Int, cs = l.map (.int .i64) ∧ ∀ n ∈ l, InI64 n := by
  induction cs with
  | nil => exact ⟨[], rfl, by simp⟩
  | cons v cs ih =>
    obtain ⟨n, rfl, hn⟩ := h v (by simp)
    obtain ⟨l, rfl, hl⟩ := ih fun v hv => h v (by simp [hv])
    exact ⟨n :: l, rfl, fun m hm => by rcases List.mem_cons.1 hm with rfl | hm; exact hn; exact hl m hm⟩
/-- A record (or a row) of n numbers. -/
theorem RepA.recI {d : Nat} {t : TypeId} {v : Value} {n : Nat} (ht : (∃ fs, P.underlying t = some (.struct fs)) ∨ ∃ m e, P.underlying t = some (.array m e)) (hc : P.cellsOf t = n) (hf : flatI P d t = true) (h : RepA P H t v) :
    ∃ l : List Int, v = .agg ⟨l.map (.int .i64)⟩ ∧ l.length = n ∧ ∀ m ∈ l, InI64 m := by
  obtain ⟨acs, rfl, hr⟩ : ∃ acs, v = .agg ⟨acs⟩ ∧ Rep P H t acs := by
    rcases ht with ⟨fs, ht⟩ | ⟨m, e, ht⟩
    · exact h.struct ht
    · exact h.array ht
  obtain ⟨l, rfl, hl⟩ := cells_ints (Rep.allInts d t acs hf hr)
  refine ⟨l, rfl, ?_, hl⟩
  have : (l.map (Value.int .i64)).length = P.cellsOf t := by
    rcases ht with ⟨fs, ht⟩ | ⟨m, e, ht⟩
    · exact (hr.struct_inv ht).1
    · exact (hr.array_inv ht).1
  rw [← hc, ← this]; simp
end
end Go.Lq
namespace Go.Lq
open Go
end Go.Lq
namespace Go.Lq
open Go
end Go.Lq

namespace Go.Lq
open Go
/-- The beginning of a slice. -/
def toV (v : Value) (m : Nat) : Value := match v with | .slice (some ⟨id, off, none⟩) _ _ => .slice (some ⟨id, off, none⟩) m (if m = 0 then 1 else m) | v => v
theorem Sl.to {H : AHeap} {sz n : Nat} {vs : List Value} {v : Value} (h : Sl H sz n vs v) {H' : AHeap} {m : Int} {k : IntKind} (h0 : 0 ≤ m) (h1 : m ≤ n) :
    sliceR sz v none (some (.int k m)) none H' = some (toV v m.toNat, H') := by
  rcases h.2 with ⟨rfl, rfl⟩ | ⟨id, off, c, rfl, _⟩
  · have : m = 0 := by omega
    subst this
    rfl
  · have e2 : (m = 0) = (m.toNat = 0) := by simp; omega
    simp only [sliceR, sliceA, loA, hiA, if_pos (And.intro (Int.le_refl 0) (And.intro h0 h1)), Option.map_some, toV, Int.sub_zero, e2, Int.toNat_zero, Nat.zero_mul, Nat.add_zero]
end Go.Lq

namespace Go.Lq
open Go
theorem store_newN {H : AHeap} {n e : Nat} {us vs : List Value} (ha : us.all isAtom = true) (hl : us.length = vs.length) (hn : n = us.length) : storeR n (.pointer (some ⟨H.length, 0, none⟩)) (.agg ⟨us⟩) (H ++ [.cells true e vs]) = some (undef, H ++ [.cells true e us]) := by
  subst hn; exact store_new ha hl
end Go.Lq
