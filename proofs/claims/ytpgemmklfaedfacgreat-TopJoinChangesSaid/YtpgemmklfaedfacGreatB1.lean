/- Towards TopJoinChanges of seat YtpgemmklfaedfacGreat: it returns true for every input. Made out of the proof's own texts, merged. -/
import Derived.RangeFuncLeaves
import Derived.OrdersIn
import Derived.Below
import Derived.Laws.Cells
import Derived.Laws.AppendOwn
import Derived.Laws.MakeOwn
import Derived.Laws.StructEq
import Derived.WideKeyRuns
import Derived.ChangeKeysEq
import Derived.Lib.ConvBytes
set_option linter.unusedSimpArgs false
set_option linter.unnecessarySimpa false
set_option linter.unusedVariables false
set_option linter.unusedSectionVars false
namespace Go.Lq
open Go
abbrev junk : Value := .chan none
inductive ROp where
  | mov (x : Operand)
  | pick (c a b : Operand)
  | new (zero : List Value)
  | box (x : Operand)
  | build (zero : List Value) (parts : List (Nat × Nat × Operand))
  | buildSlice (esz len : Nat) (zero : List Value) (parts : List (Nat × Nat × Operand))
  | load (x : Operand)
  | loadN (n : Nat) (x : Operand)
  | store (n : Nat) (a x : Operand)
  | nilCheck (x : Operand)
  | arith (op : BinOp) (x y : Operand)
  | cmp (op : BinOp) (x y : Operand)
  | eqv (kind : Nat) (neg : Bool) (x y : Operand)
  | eqAgg (neg : Bool) (ls : List (Nat × Bool)) (x y : Operand)
  | band (x y : Operand)
  | shr (x y : Operand)
  | bor (x y : Operand)
  | shl (x y : Operand)
  | idxS (x i : Operand)
  | lenS (x : Operand)
  | strOp (op : BinOp) (x y : Operand)
  | sliceS (x : Operand) (lo hi : Option Operand)
  | byteS (x : Operand)
  | bytesS (x : Operand)
  | not (x : Operand)
  | neg (x : Operand)
  | conv (k : IntKind) (x : Operand)
  | mkFunc (fn : Fn) (first captured : List Operand)
  | mkSlice (bytes : Nat) (zero : List Value) (len cap : Operand)
  | slice (size : Nat) (x : Operand) (lo hi mx : Option Operand)
  | fieldAddr (off : Nat) (x : Operand)
  | field (off : Nat) (x : Operand)
  | fieldN (off n : Nat) (x : Operand)
  | idxAddr (size : Nat) (x i : Operand)
  | idxAddrA (len size : Nat) (x i : Operand)
  | arrS (len : Nat) (x : Operand)
  | idxA (len : Nat) (x i : Operand)
  | idxAN (len size : Nat) (x i : Operand)
  | len (x : Operand)
  | append (size bytes : Nat) (s x : Operand)
  | appendF (size bytes : Nat) (s x : Operand)
  | copy (size : Nat) (d s : Operand)
  | most (mx : Bool) (x : Operand) (xs : List Operand)
  | extract (x : Operand) (i : Nat)
  | iface (t : TypeId) (x : Operand)
  | makeMap
  | mapGet (zero : Value) (ls : List (Nat × Bool)) (ok : Bool) (m k : Operand)
  | mapPut (ls : List (Nat × Bool)) (m k x : Operand)
  | call (f : Operand) (args : List Operand)
structure ROper where
  dst : Option Nat
  op : ROp
  guard : Option (Nat × Bool)
inductive RCode where
  | skip
  | ops (l : List ROper)
  | draw (l : List (ROper × Bool))
  | drawF (fs : List (Nat × Nat × Operand)) (l : List (ROper × Bool))
  | drawS (d n x : Nat) (l : List (ROper × Bool))
  | anyO (l : List (ROper × List Nat))
  | seq (a b : RCode)
  | cond (c : Operand) (a b : RCode)
  | block (id : Nat) (body : RCode)
  | loop (body : RCode)
  | rangeFunc (f : Operand) (params : List Nat) (assign body : RCode)
  | scope (body : RCode)
  | label (l : Nat)
  | exit (id : Nat)
  | ret
inductive AExit where
  | normal
  | exit (id : Nat)
  | ret
  deriving DecidableEq
def AExit.up : AExit → Exit
  | .normal => .normal
  | .exit id => .exit id
  | .ret => .ret
abbrev Env := List Value
structure ALoop where
  state : LoopState
  pending : Option AExit
  env : Env
  params : List Nat
  assign : RCode
  body : RCode
inductive AObj where
  | cells (own : Bool) (esz : Nat) (vs : List Value)
  | loop (r : ALoop)
  | map (es : List (Array Value × Value))
  | row (cs : Array Value)
  | dead
abbrev AHeap := List AObj
structure ALoc where
  b : Nat
  o : Nat
  room : Nat
abbrev Beta := Nat → Option ALoc
inductive FnRel (β : Beta) : Fn → Fn → Prop
  | func (f : FuncId) : FnRel β (.func f) (.func f)
  | yield {l : Nat} {p : ALoc} (h : β l = some p) (h0 : p.o = 0) : FnRel β (.yield l) (.yield p.b)
inductive VR (β : Beta) : Value → Value → Prop
  | junk (v : Value) : VR β (.chan none) v
  | bool (b : Bool) : VR β (.bool b) (.bool b)
  | int (k : IntKind) (n : Int) : VR β (.int k n) (.int k n)
  | string (s : ByteArray) : VR β (.string s) (.string s)
  | ptrNil : VR β (.pointer none) (.pointer none)
  | mapNil : VR β (.map none) (.map none)
  | ptr {id off : Nat} {p : ALoc} (h : β id = some p) : VR β (.pointer (some ⟨id,off,none⟩)) (.pointer (some ⟨p.b,p.o + off,none⟩))
  | mapRef {id : Nat} {p : ALoc} (h : β id = some p) (h0 : p.o = 0) : VR β (.map (some id)) (.map (some p.b))
  | sliceNil : VR β (.slice none 0 0) (.slice none 0 0)
  | slice {id off len c cap : Nat} {a : Addr} (hc : len ≤ cap) (h0 : c = 0 → cap = len)
      (ha : 0 < len ∨ 2 ≤ c → ∃ p,β id = some p ∧ a = ⟨p.b,p.o + off,none⟩ ∧ (off = 0 → cap ≤ p.room)) :
      VR β (.slice (some ⟨id,off,none⟩) len c) (.slice (some a) len cap)
  | func {fn fn' : Fn} (hf : FnRel β fn fn') {xs xs' ys ys' : Array Value} (hx : xs.size = xs'.size) (hy : ys.size = ys'.size)
      (h : ∀ (i : Nat) (v v' : Value),xs[i]? = some v → xs'[i]? = some v' → VR β v v')
      (h' : ∀ (i : Nat) (v v' : Value),ys[i]? = some v → ys'[i]? = some v' → VR β v v') : VR β (.func fn xs ys) (.func fn' xs' ys')
  | nilFunc : VR β .nilFunc .nilFunc
  | nilIface : VR β .nilIface .nilIface
  | iface (t : TypeId) {v v' : Value} (h : VR β v v') : VR β (.iface t v) (.iface t v')
  | agg {xs xs' : Array Value} (hx : xs.size = xs'.size) (h : ∀ (i : Nat) (v v' : Value),xs[i]? = some v → xs'[i]? = some v' → VR β v v') :
      VR β (.agg xs) (.agg xs')
  | tuple {xs xs' : Array Value} (hx : xs.size = xs'.size) (h : ∀ (i : Nat) (v v' : Value),xs[i]? = some v → xs'[i]? = some v' → VR β v v') :
      VR β (.tuple xs) (.tuple xs')
def VRs (β : Beta) (xs xs' : List Value) : Prop := xs.length = xs'.length ∧ ∀ (i : Nat) v v',xs[i]? = some v → xs'[i]? = some v' → VR β v v'
def Beta.le (β β' : Beta) : Prop := ∀ id p,β id = some p → β' id = some p
theorem FnRel.mono {β β' : Beta} (h : β.le β') {f f' : Fn} (r : FnRel β f f') : FnRel β' f f' := by
  cases r with
  | func f => exact .func f
  | yield hl h0 => exact .yield (h _ _ hl) h0
theorem VR.mono {β β' : Beta} (h : β.le β') {v v' : Value} (r : VR β v v') : VR β' v v' := by
  induction r with
  | junk v => exact .junk v
  | bool b => exact .bool b
  | int k n => exact .int k n
  | string s => exact .string s
  | ptrNil => exact .ptrNil
  | mapNil => exact .mapNil
  | ptr hb => exact .ptr (h _ _ hb)
  | mapRef hb h0 => exact .mapRef (h _ _ hb) h0
  | sliceNil => exact .sliceNil
  | slice hc h0 ha => exact .slice hc h0 fun hh => by obtain ⟨p,hb,e⟩ := ha hh; exact ⟨p,h _ _ hb,e⟩
  | func hf hx hy _ _ ih ih' => exact .func (hf.mono h) hx hy ih ih'
  | nilFunc => exact .nilFunc
  | nilIface => exact .nilIface
  | iface t _ ih => exact .iface t ih
  | agg hx _ ih => exact .agg hx ih
  | tuple hx _ ih => exact .tuple hx ih
theorem VRs.mono {β β' : Beta} (h : β.le β') {xs xs' : List Value} (r : VRs β xs xs') : VRs β' xs xs' :=
  ⟨r.1,fun i v v' h1 h2 => (r.2 i v v' h1 h2).mono h⟩
theorem arr_some {xs xs' : Array Value} (h : xs.size = xs'.size) {i : Nat} {v : Value} (a : xs[i]? = some v) : ∃ v',xs'[i]? = some v' := by
  have hi : i < xs.size := (Array.getElem?_eq_some_iff.1 a).1
  exact ⟨xs'[i]'(by omega),by simp [h ▸ hi]⟩
theorem FnRel.restrict {β₀ β : Beta} (h : β₀.le β) {f f₀ f' : Fn} (r₀ : FnRel β₀ f f₀) (r : FnRel β f f') : FnRel β₀ f f' := by
  cases r with
  | func f => exact .func f
  | yield hl h0 =>
    cases r₀ with
    | yield hl₀ h0' =>
      have := h _ _ hl₀
      rw [hl] at this
      cases this
      exact .yield hl₀ h0'
theorem VR.restrict {β₀ β : Beta} (h : β₀.le β) {v v₀ : Value} (r₀ : VR β₀ v v₀) : ∀ {v' : Value},VR β v v' → VR β₀ v v' := by
  induction r₀ with
  | junk v => intro v' _; exact .junk v'
  | bool b => intro v' r; cases r; exact .bool b
  | int k n => intro v' r; cases r; exact .int k n
  | string s => intro v' r; cases r; exact .string s
  | ptrNil => intro v' r; cases r; exact .ptrNil
  | mapNil => intro v' r; cases r; exact .mapNil
  | ptr hb =>
    intro v' r
    cases r with
    | ptr hb' =>
      have := h _ _ hb
      rw [hb'] at this
      cases this
      exact .ptr hb
  | mapRef hb h0 =>
    intro v' r
    cases r with
    | mapRef hb' h0' =>
      have := h _ _ hb
      rw [hb'] at this
      cases this
      exact .mapRef hb h0
  | sliceNil => intro v' r; cases r; exact .sliceNil
  | slice hc h0 ha =>
    intro v' r
    cases r with
    | slice hc' h0' ha' =>
      refine .slice hc' h0' fun hh => ?_
      obtain ⟨p,hb,e⟩ := ha hh
      obtain ⟨p',hb',e'⟩ := ha' hh
      have := h _ _ hb
      rw [hb'] at this
      cases this
      exact ⟨_,hb,e'⟩
  | func hf hx hy h1 h2 ih ih' =>
    intro v' r
    cases r with
    | func hf' hx' hy' h1' h2' =>
      refine .func (hf.restrict h hf') hx' hy' (fun i v v' a b => ?_) (fun i v v' a b => ?_)
      · obtain ⟨u,hu⟩ := arr_some hx a
        exact ih i v u a hu (h1' i v v' a b)
      · obtain ⟨u,hu⟩ := arr_some hy a
        exact ih' i v u a hu (h2' i v v' a b)
  | nilFunc => intro v' r; cases r; exact .nilFunc
  | nilIface => intro v' r; cases r; exact .nilIface
  | iface t _ ih => intro v' r; cases r with | iface _ r => exact .iface t (ih r)
  | agg hx h1 ih =>
    intro v' r
    cases r with
    | agg hx' h1' =>
      refine .agg hx' fun i v v' a b => ?_
      obtain ⟨u,hu⟩ := arr_some hx a
      exact ih i v u a hu (h1' i v v' a b)
  | tuple hx h1 ih =>
    intro v' r
    cases r with
    | tuple hx' h1' =>
      refine .tuple hx' fun i v v' a b => ?_
      obtain ⟨u,hu⟩ := arr_some hx a
      exact ih i v u a hu (h1' i v v' a b)
end Go.Lq

namespace Go.Lq
open Go
def sizeAt (P : Program) (t : TypeId) : Option Nat := (P.info? t).map (·.size)
def zeroAt (P : Program) (t : TypeId) : Option (List Value) := ((P.info? t).bind (·.zero)).map (·.cells.toList)
def aggAt (P : Program) (t : TypeId) : Option Bool := (P.underlying t).map fun | .struct _ => true | .array _ _ => true | _ => false
def zeroRow (zero : List Value) (n : Nat) : List Value := (List.range n).map fun i => zero.getD (i % zero.length) default
def partsAt (place : Nat → Option (Nat × Nat)) (parts : List (Nat × Operand)) : Option (List (Nat × Nat × Operand)) :=
  parts.mapM fun (i,x) => (place i).map fun (o,s) => (o,s,x)
def orFail (o : Option ROp) : ROp := o.getD (.extract (.const junk) 0)
def compileBuiltin (P : Program) (b : Builtin) (ts : List TypeId) (args : List Operand) : Option ROp :=
  match b,ts,args with
  | .len,[t],[x] => match P.underlying t with | some (.slice _) => some (.len x) | some .string => some (.lenS x) | _ => none
  | .append,[t,u],[s,x] =>
    match P.underlying t,P.underlying u with
    | some (.slice e),some (.slice _) =>
      match P.info? e with
      | some i => match i.zero with
        | some z => if z.cells.size = i.size then some (.append i.size i.bytes s x) else none
        | none => none
      | none => none
    | _,_ => none
  | .append,[t,u,_],[s,x] =>
    match P.underlying t,P.underlying u with
    | some (.slice e),some (.slice _) =>
      match P.info? e with
      | some i => match i.zero with
        | some z => if z.cells.size = i.size then some (.appendF i.size i.bytes s x) else none
        | none => none
      | none => none
    | _,_ => none
  | .copy,[t,_],[d,s] =>
    match P.underlying t with
    | some (.slice e) => (sizeAt P e).map fun n => .copy n d s
    | _ => none
  | .min,_,x :: xs => some (.most false x xs)
  | .max,_,x :: xs => some (.most true x xs)
  | _,_,_ => none
def leavesFs (P : Program) (rec : TypeId → Option (List (Nat × Bool))) : List Field → Option (List (Nat × Bool))
  | [] => some []
  | f :: fs =>
    if f.name = "_" then none
    else match aggAt P f.type,sizeAt P f.type,rec f.type,leavesFs P rec fs with
      | some _,some n,some ls,some rest => if ls.all (·.1 < n) then some (ls.map (fun l => (l.1 + f.offset,l.2)) ++ rest) else none
      | _,_,_,_ => none
def leavesT (P : Program) : Nat → TypeId → Option (List (Nat × Bool))
  | 0,_ => none
  | d + 1,t =>
    match P.underlying t with
    | some (.int _) => some [(0,false)]
    | some .bool => some [(0,true)]
    | some (.struct fs) => if P.stoodInHeld t then none else leavesFs P (leavesT P d) fs.toList
    | _ => none
def leavesA (P : Program) (t : TypeId) : Option (List (Nat × Bool)) :=
  match P.underlying t with
  | some (.array n e) =>
    match P.underlying e,sizeAt P e with
    | some (.int _),some 1 => some ((List.range n).map fun i => (i,false))
    | _,_ => none
  | _ => leavesT P 100 t
def eqlAgg (P : Program) (neg : Bool) (t : TypeId) (x y : Operand) : Option ROp :=
  if P.eqGuardType P.depth t then none else (leavesA P t).map fun ls => .eqAgg neg ls x y
theorem eqlAgg_form {P : Program} {neg : Bool} {t : TypeId} {x y : Operand} {r : ROp} (h : eqlAgg P neg t x y = some r) : ∃ ls,ROp.eqAgg neg ls x y = r := by
  unfold eqlAgg at h
  split at h
  · cases h
  · simp only [Option.map_eq_some_iff] at h
    obtain ⟨ls,_,h⟩ := h
    exact ⟨ls,h⟩
def keyFs (P : Program) (ls : List (Nat × Bool)) (fs : List Field) : Bool :=
  fs.all fun f => (match P.underlying f.type with | some (.int _) => true | _ => false) && ls.contains (f.offset,false)
def keyLs (P : Program) (t : TypeId) : Option (List (Nat × Bool)) :=
  match P.underlying t,leavesT P 100 t with
  | some (.struct fs),some ls => if keyFs P ls fs.toList then some ls else none
  | _,_ => none
def zeroOf (P : Program) (t : TypeId) : Option Value := match P.info? t with | some i => i.zero | none => none
def arrOp (P : Program) (n : Nat) (e : TypeId) (x : Operand) (lo hi : Option Operand) : Option ROp :=
  match x,lo,hi with
  | .global g,none,none => if 0 < n ∧ n ≤ 64 then (sizeAt P e).map fun _ => .arrS n (.global g) else none
  | _,_,_ => none
theorem arrOp_form {P : Program} {n : Nat} {e : TypeId} {x : Operand} {lo hi : Option Operand} {r : ROp} (h : arrOp P n e x lo hi = some r) : ∃ n g,r = .arrS n (.global g) ∧ x = .global g := by
  unfold arrOp at h
  split at h
  · rename_i g
    split at h
    · obtain ⟨_,_,rfl⟩ := Option.map_eq_some_iff.1 h; exact ⟨n,g,rfl,rfl⟩
    · cases h
  · cases h
def compileOp (P : Program) : Op → Option ROp
  | .move x | .assign x => some (.mov x)
  | .pick c a b => some (.pick c a b)
  | .alloc t => (zeroAt P t).map .new
  | .box _ x => some (.box x)
  | .build t parts =>
    match zeroAt P t,P.underlying t with
    | some z,some (.struct fs) =>
      match fs.toList.mapM fun f => (sizeAt P f.type).map fun s => (f.offset,s) with
      | some ps => (partsAt (ps[·]?) parts.toList).map (.build z)
      | none => none
    | some z,some (.array _ e) =>
      match sizeAt P e with
      | some s => (partsAt (fun i => some (i * s,s)) parts.toList).map (.build z)
      | none => none
    | _,_ => none
  | .buildSlice t len parts =>
    match P.underlying t with
    | some (.slice e) =>
      match sizeAt P e,zeroAt P e with
      | some s,some z =>
        if len * s ≤ 16777216 ∧ len * s ≠ 0 then (partsAt (fun i => some (i * s,s)) parts.toList).map (.buildSlice s len (zeroRow z (len * s)))
        else if len * s = 0 ∧ parts.toList.length = 0 then some (.buildSlice s len [] []) else none
      | _,_ => none
    | _ => none
  | .load t x =>
    match aggAt P t,sizeAt P t with
    | some true,some n => some (.loadN n x)
    | some false,_ => some (.load x)
    | _,_ => none
  | .store t a x => (sizeAt P t).map fun n => .store n a x
  | .nilCheck x => some (.nilCheck x)
  | .binOp op t x y _ =>
    match op,P.underlying t with
    | .add,some (.int _) | .sub,some (.int _) | .mul,some (.int _) | .quo,some (.int _) | .rem,some (.int _) => some (.arith op x y)
    | .eql,some (.int _) | .neq,some (.int _) | .lss,some (.int _) | .leq,some (.int _) | .gtr,some (.int _) | .geq,some (.int _) => some (.cmp op x y)
    | .eql,some .bool => some (.eqv 0 false x y)
    | .eql,some (.pointer _) => some (.eqv 1 false x y)
    | .eql,some (.slice _) => some (.eqv 2 false x y)
    | .eql,some (.func _ _ _) => some (.eqv 3 false x y)
    | .neq,some .bool => some (.eqv 0 true x y)
    | .neq,some (.pointer _) => some (.eqv 1 true x y)
    | .neq,some (.slice _) => some (.eqv 2 true x y)
    | .neq,some (.func _ _ _) => some (.eqv 3 true x y)
    | .eql,some (.struct _) => eqlAgg P false t x y
    | .neq,some (.struct _) => eqlAgg P true t x y
    | .eql,some (.array _ _) => eqlAgg P false t x y
    | .neq,some (.array _ _) => eqlAgg P true t x y
    | .and,some (.int _) => some (.band x y)
    | .shr,some (.int _) => some (.shr x y)
    | .or,some (.int _) => some (.bor x y)
    | .shl,some (.int _) => some (.shl x y)
    | .add,some .string | .eql,some .string | .neq,some .string | .lss,some .string | .leq,some .string | .gtr,some .string | .geq,some .string => some (.strOp op x y)
    | .eql,some (.interface _) => match y with | .const _ => some (.eqv 4 false x y) | _ => none
    | .neq,some (.interface _) => match y with | .const _ => some (.eqv 4 true x y) | _ => none
    | _,_ => none
  | .unOp .not _ x => some (.not x)
  | .unOp .neg _ x => some (.neg x)
  | .convert s t x =>
    match P.underlying s,P.underlying t with
    | some _,some (.int k) => some (.conv k x)
    | some (.slice e),some .string => match P.underlying e with | some (.int .u8) => some (.byteS x) | _ => none
    | some .string,some (.slice e) => match P.underlying e with | some (.int .u8) => some (.bytesS x) | _ => none
    | _,_ => none
  | .makeInterface t x => match P.underlying t with | some (.interface _) => none | some _ => some (.iface t x) | none => none
  | .makeFunc fn first captured => some (.mkFunc fn first.toList captured.toList)
  | .makeSlice t l c =>
    match P.underlying t with
    | some (.slice e) => match P.info? e with
      | some i => match i.zero with
        | some z => if i.size ≠ 0 ∧ z.cells.size = i.size then some (.mkSlice i.bytes z.cells.toList l c) else none
        | none => none
      | none => none
    | _ => none
  | .slice t x lo hi mx => match P.underlying t,mx with | some (.slice e),_ => (sizeAt P e).map fun n => .slice n x lo hi mx | some .string,none => some (.sliceS x lo hi) | some (.array n e),none => arrOp P n e x lo hi | _,_ => none
  | .fieldAddr s x f =>
    match P.underlying s with
    | some (.struct fs) => match fs[f]? with
      | some f => match sizeAt P f.type with
        | some (_ + 1) => some (.fieldAddr f.offset x)
        | _ => none
      | none => none
    | _ => none
  | .field t x f =>
    match P.underlying t with
    | some (.struct fs) => match fs[f]? with
      | some f => match aggAt P f.type,sizeAt P f.type with
        | some true,some n => some (.fieldN f.offset n x)
        | some false,_ => some (.field f.offset x)
        | _,_ => none
      | none => none
    | _ => none
  | .indexAddr t x i =>
    match P.underlying t with
    | some (.slice e) => (sizeAt P e).map fun n => .idxAddr n x i
    | some (.array len e) => (sizeAt P e).map fun n => .idxAddrA len n x i
    | _ => none
  | .index t x i =>
    match P.underlying t with
    | some (.array len e) => match aggAt P e,sizeAt P e with
      | some true,some n => some (.idxAN len n x i)
      | some false,some 1 => some (.idxA len x i)
      | _,_ => none
    | some .string => some (.idxS x i)
    | _ => none
  | .extract x i => some (.extract x i)
  | .makeMap _ none => some .makeMap
  | .lookup t m k ok =>
    match P.underlying t with
    | some (.map kt e) =>
      match keyLs P kt,zeroOf P e with
      | some ls,some z => some (.mapGet z ls ok m k)
      | _,_ => none
    | _ => none
  | .mapUpdate t m k x | .insert t m k x =>
    match P.underlying t with
    | some (.map kt _) => (keyLs P kt).map fun ls => .mapPut ls m k x
    | _ => none
  | .call c =>
    match c.callee with
    | .builtin b => compileBuiltin P b c.argTypes.toList c.args.toList
    | .value f => some (.call f c.args.toList)
    | .invoke _ _ => none
  | _ => none
def force {α : Type} (n : Nat) (k : Nat → α) : α := Nat.casesOn (motive := fun _ => α) n (k 0) fun m => k (m + 1)
theorem force_eq {α : Type} (n : Nat) (k : Nat → α) : force n k = k n := by cases n <;> rfl
def maskOf (acc : List Nat) (es : List Edge) : Nat :=
  es.foldl (fun s e => if Region.binds .any e then s ||| 2 ^ e.on ||| acc.getD e.on 0 else s) 0
def ancs : List Oper → List Nat → List Nat
  | [],acc => acc
  | o :: rest,acc => force (maskOf acc o.after.toList) fun m => ancs rest (acc ++ [m])
def writes : Op → Bool
  | .store _ _ _ | .mapUpdate _ _ _ _ | .insert _ _ _ _ => true
  | .call c => match c.callee with | .builtin .append => c.argTypes.size != 3 | .builtin .copy => true | _ => false
  | _ => false
def isCall : Op → Bool
  | .call c => match c.callee with | .builtin _ => false | _ => true
  | _ => false
def lays : Op → Bool
  | .alloc _ | .box _ _ | .buildSlice _ _ _ | .makeSlice _ _ _ | .makeMap _ _ | .convert _ _ _ => true
  | .call c => match c.callee with | .builtin .append => c.argTypes.size == 3 | .builtin _ => false | _ => true
  | _ => false
def loads : Op → Bool
  | .load _ _ | .lookup _ _ _ _ | .convert _ _ _ => true
  | _ => false
def heapy (o : Op) : Bool := writes o || lays o || loads o
def frees (as : List Nat) (ks : List Oper) (j : Nat) : List Oper → Nat → Bool
  | [],_ => false
  | x :: rest,i => (lays x.op && (if i < j then !(as.getD j 0).testBit i else j < i && !(as.getD i 0).testBit j)) || frees as ks j rest (i + 1)
def vcall : Op → Bool
  | .call c => match c.callee with | .value (.tmp _) => true | _ => false
  | _ => false
def ordAll (m : Nat) : Nat → Bool
  | 0 => true
  | i + 1 => m.testBit i && ordAll m i
def chainFrom (as : List Nat) : List Oper → Nat → Bool
  | [],_ => true
  | _ :: rest,j => ordAll (as.getD j 0) j && chainFrom as rest (j + 1)
def freesOf (as : List Nat) (ks : List Oper) : List Oper → Nat → List Bool
  | [],_ => []
  | x :: rest,j => (match vcall x.op with | true => ordAll (as.getD j 0) j && chainFrom as rest (j + 1) | false => isCall x.op && frees as ks j ks 0) :: freesOf as ks rest (j + 1)
def turns (fr : Bool) (o : Op) : Bool := writes o || (lays o && !fr)
def pairOk (ops : Array Oper) (x y : Oper) (fx fy : Bool) : Bool :=
  x.apart ops y && !(writes x.op && heapy y.op) && !(heapy x.op && writes y.op) && !(turns fx x.op && turns fy y.op)
def rowOk (ops : Array Oper) (fs : List Bool) (m : Nat) (y : Oper) (fy : Bool) : List Oper → Nat → Bool
  | [],_ => true
  | x :: rest,i => (m.testBit i || pairOk ops x y (fs.getD i false) fy) && rowOk ops fs m y fy rest (i + 1)
def drawRows (ops : Array Oper) (as : List Nat) (fs : List Bool) : List Oper → Nat → Bool
  | [],_ => true
  | y :: rest,j =>
    y.after.all (fun e => !Region.binds .any e || e.on < j) && rowOk ops fs (as.getD j 0) y (fs.getD j false) (ops.toList.take j) 0 && drawRows ops as fs rest (j + 1)
def noSelect : List Oper → Bool
  | [] => true
  | o :: rest => (match o.op with | .select _ _ => false | .defer _ => false | _ => true) && noSelect rest
def freeList (ops : Array Oper) : List Bool := freesOf (ancs ops.toList []) ops.toList ops.toList 0
def drawOk (ops : Array Oper) : Bool := noSelect ops.toList && drawRows ops (ancs ops.toList []) (freeList ops) ops.toList 0
def constOk : Value → Bool
  | .bool _ | .int _ _ | .string _ | .pointer none | .map none | .slice none 0 0 | .nilFunc | .nilIface => true
  | .agg xs => xs.toList.all fun | .bool _ | .int _ _ | .string _ | .pointer none | .slice none 0 0 | .nilFunc | .nilIface => true | _ => false
  | _ => false
def opdOk (P : Program) : Operand → Bool
  | .const v => constOk v
  | .global g => g < P.globals.size
  | _ => true
def opOf (P : Program) (op : Op) : ROp :=
  if op.operands.toList.all (opdOk P) then orFail (compileOp P op) else orFail none
def compileOper (P : Program) (ops : Array Oper) (o : Oper) : Option ROper :=
  match o.guard with
  | none => some { dst := o.dst,op := opOf P o.op,guard := none }
  | some (j,want) => ((ops[j]?).bind (·.dst)).map fun s => { dst := o.dst,op := opOf P o.op,guard := some (s,want) }
/-! ### Boxes that a region lays and fills,and looks at no more -/
def writesT (ops : Array Oper) (t : Nat) (p : Nat → Bool) : Bool := (List.range ops.size).all fun m => match ops[m]? with | some z => z.dst != some t || p m | none => true
def heldAt (ops : Array Oper) (i : Nat) : Option (Nat × Nat × Nat × Nat) :=
  match ops[i]? with
  | some o =>
    match o.op,o.dst,o.guard with
    | .alloc t,some d,none =>
      match (List.range ops.size).filter fun j => match ops[j]? with | some y => (y.looksAt ops).contains d | none => false with
      | [j] =>
        match ops[j]? with
        | some y =>
          match y.op,y.dst,y.guard with
          | .store t' (.tmp d') (.tmp x),none,none =>
            if t' = t && d' = d && x != d && decide (i < j) && (y.after.toList.any fun e => e.on == i && Region.binds .any e) && writesT ops d (· == i) &&
                writesT ops x (fun m => y.after.toList.any fun e => e.on == m && Region.binds .any e) then some (i,j,d,x) else none
          | _,_,_ => none
        | none => none
      | _ => none
    | _,_,_ => none
  | none => none
def holds (ops : Array Oper) : List (Nat × Nat × Nat × Nat) := (List.range ops.size).filterMap (heldAt ops)
def isHeld (hs : List (Nat × Nat × Nat × Nat)) (k : Nat) : Bool := hs.any fun h => h.1 == k || h.2.1 == k
def hideOps (ops : Array Oper) : Array Oper := ops.mapIdx fun k o => if isHeld (holds ops) k then { o with dst := none,op := .move (.const (.bool false)) } else o
def holdSize (P : Program) (ops : Array Oper) (h : Nat × Nat × Nat × Nat) : Option (Nat × Nat × Operand) :=
  match ops[h.1]? with
  | some o =>
    match o.op with
    | .alloc t =>
      match zeroAt P t,sizeAt P t with
      | some z,some n => if z.length = n then some (h.2.2.1,n,.tmp h.2.2.2) else none
      | _,_ => none
    | _ => none
  | none => none
def noV (ops : Array Oper) : Bool := ops.toList.all fun o => !vcall o.op
def freeCalls (ops : Array Oper) : Nat := ((ops.toList.zip (freeList ops)).filter fun p => isCall p.1.op && !vcall p.1.op && p.2).length
def asIs (ops : Array Oper) : Bool := !(decide (freeCalls (hideOps ops) < freeCalls ops) && drawOk (hideOps ops) && noV (hideOps ops))
/-! ### A store into a box that its region looks at in no other place -/
def hideAt (ops : Array Oper) (j : Nat) : Array Oper := ops.mapIdx fun k o => if k == j then { o with dst := none,op := .move (.const (.bool false)) } else o
def lateAt (ops : Array Oper) (j : Nat) : Option (Nat × TypeId × Nat × Nat) :=
  match ops[j]? with
  | some y =>
    match y.op,y.dst,y.guard with
    | .store t (.tmp d) (.tmp x),none,none =>
      if writesT ops d (fun _ => false) && writesT ops x (fun m => y.after.toList.any fun e => e.on == m && Region.binds .any e) && drawOk (hideAt ops j) && noV (hideAt ops j) then some (j,t,d,x) else none
    | _,_,_ => none
  | none => none
def lateOf (ops : Array Oper) : Option (Nat × TypeId × Nat × Nat) := (List.range ops.size).findSome? (lateAt ops)
/-! ### Appends to slices that have no room: they lay and write nothing -/
def loose (ops : Array Oper) (as : List Nat) (i : Nat) : Bool :=
  (List.range ops.size).any fun j => j != i && (match ops[j]? with | some y => heapy y.op | none => false) && !(if j < i then (as.getD i 0).testBit j else (as.getD j 0).testBit i)
def softOper (ops : Array Oper) (as : List Nat) (i : Nat) (o : Oper) : Oper :=
  match o.op with
  | .call ⟨.builtin .append,args,⟨[t,u]⟩⟩ => if loose ops as i then { o with op := .call ⟨.builtin .append,args,#[t,u,t]⟩ } else o
  | _ => o
def softOps (ops : Array Oper) : Array Oper := ops.mapIdx (softOper ops (ancs ops.toList []))
/-! ### Any order -/
def afterA (o : Oper) : List Nat := (o.after.toList.filter (Region.binds .any)).map (·.on)
def compile (P : Program) : Code → Option RCode
  | .skip => some .skip
  | .region _ ops false => (ops.toList.mapM (compileOper P ops)).map .ops
  | .region _ ops true => if drawOk ops && asIs ops then (ops.toList.mapM (compileOper P ops)).map (fun l => .draw (l.zip (freeList ops))) else
    if drawOk (hideOps ops) && noV (hideOps ops) then
      match (holds ops).mapM (holdSize P ops),(hideOps ops).toList.mapM (compileOper P (hideOps ops)) with
      | some fs,some l => some (.drawF fs (l.zip (freeList (hideOps ops))))
      | _,_ => none
    else match lateOf ops with
      | some h => match sizeAt P h.2.1,(hideAt ops h.1).toList.mapM (compileOper P (hideAt ops h.1)) with
        | some n,some l => some (.drawS h.2.2.1 n h.2.2.2 (l.zip (freeList (hideAt ops h.1))))
        | _,_ => none
      | none => if drawOk (softOps ops) then ((softOps ops).toList.mapM (compileOper P (softOps ops))).map (fun l => .draw (l.zip (freeList (softOps ops)))) else
        if ops.size ≤ 24 then (ops.toList.mapM (compileOper P ops)).map (fun l => .anyO (l.zip (ops.toList.map afterA))) else none
  | .seq a b => match compile P a,compile P b with | some x,some y => some (.seq x y) | _,_ => none
  | .cond c a b => match opdOk P c,compile P a,compile P b with | true,some x,some y => some (.cond c x y) | _,_,_ => none
  | .block id c => (compile P c).map (.block id)
  | .loop c => (compile P c).map .loop
  | .scope c => (compile P c).map .scope
  | .label l => some (.label l)
  | .rangeFunc f ps a b => match opdOk P f,compile P a,compile P b with | true,some x,some y => some (.rangeFunc f ps.toList x y) | _,_,_ => none
  | .exit id => some (.exit id)
  | .ret => some .ret
  | _ => none
end Go.Lq

namespace Go.Lq
open Go
def mutAt (H : AHeap) (id : Nat) : Bool := match H[id]? with | some (.cells true _ _) => true | some (.loop _) => true | some (.map _) => true | _ => false
def liveAt (H : AHeap) (id : Nat) : Bool := match H[id]? with | some (.cells _ _ _) => true | some (.loop _) => true | some (.map _) => true | some (.row _) => true | _ => false
theorem liveAt_of_mut {H : AHeap} {id : Nat} (h : mutAt H id = true) : liveAt H id = true := by
  unfold mutAt at h; unfold liveAt; split at h <;> simp_all
def pendUp : Option AExit → Option Code
  | none => none
  | some .normal => some .skip
  | some (.exit id) => some (.exit id)
  | some .ret => some .ret
structure LoopRel (P : Program) (β : Beta) (r : ALoop) (r' : Loop) : Prop where
  state : r'.state = r.state
  pending : r'.pending = pendUp r.pending
  env : VRs β r.env r'.tmps.toList
  params : r'.params.toList = r.params
  assign : compile P r'.assign = some r.assign
  body : compile P r'.body = some r.body
theorem LoopRel.mono {P : Program} {β β' : Beta} (h : β.le β') {r : ALoop} {r' : Loop} (l : LoopRel P β r r') : LoopRel P β' r r' :=
  ⟨l.state,l.pending,l.env.mono h,l.params,l.assign,l.body⟩
def isIntV : Value → Bool | .int _ _ => true | _ => false
def EntsRel (β : Beta) (es : List (Array Value × Value)) (es' : List MapEntry) : Prop :=
  es.length = es'.length ∧ ∀ (i : Nat) e e',es[i]? = some e → es'[i]? = some e' → e'.key = .agg e.1 ∧ VR β e.2 e'.val
theorem EntsRel.mono {β β' : Beta} (h : β.le β') {es : List (Array Value × Value)} {es' : List MapEntry} (r : EntsRel β es es') : EntsRel β' es es' :=
  ⟨r.1,fun i e e' h1 h2 => ⟨(r.2 i e e' h1 h2).1,(r.2 i e e' h1 h2).2.mono h⟩⟩
def ObjRel (P : Program) (β : Beta) (base : Nat) (w : World) (p : ALoc) : Option AObj → Prop
  | some (.cells own esz vs) => ∃ cs t fz,w.heap[p.b]? = some (.cells cs t fz) ∧
      (∀ (i : Nat) v,vs[i]? = some v → ∃ cv,cs[p.o + i]? = some cv ∧ VR β v cv) ∧
      (own = true → p.o = 0 ∧ fz = (0,0) ∧ base ≤ p.b ∧ p.room * esz ≤ cs.size)
  | some (.loop r) => p.o = 0 ∧ base ≤ p.b ∧ ∃ r',w.heap[p.b]? = some (.loop r') ∧ LoopRel P β r r'
  | some (.map es) => p.o = 0 ∧ base ≤ p.b ∧ ∃ es' clk,w.heap[p.b]? = some (.map es' clk) ∧ EntsRel β es es'.toList
  | some (.row cs) => ∃ t fz,w.heap[p.b]? = some (.cells cs t fz)
  | some .dead => True
  | none => False
structure Inj (P : Program) (β : Beta) (H : AHeap) (base : Nat) (w : World) : Prop where
  base_le : base ≤ w.heap.size
  globs : P.globals.size ≤ H.length
  glob : ∀ g,g < P.globals.size → ∃ r,β g = some ⟨g,0,r + 64⟩
  dom : ∀ id p,β id = some p → id < H.length
  lt : ∀ id p,β id = some p → p.b < w.heap.size
  obj : ∀ id p,β id = some p → ObjRel P β base w p H[id]?
  own : ∀ i j p q,β i = some p → β j = some q → p.b = q.b → i ≠ j → mutAt H i = true → liveAt H j = true → False
structure Post (β : Beta) (H : AHeap) (w : World) (β' : Beta) (H' : AHeap) (w' : World) : Prop where
  os : w'.os = w.os
  tape : w'.tape = w.tape
  output : w'.output = w.output
  size : w.heap.size ≤ w'.heap.size
  len : H.length ≤ H'.length
  old : ∀ id,id < H.length → β' id = β id
  dead : ∀ id,id < H.length → mutAt H' id = true → mutAt H id = true
  live : ∀ id,id < H.length → liveAt H' id = true → liveAt H id = true
  frame : ∀ b,b < w.heap.size → (∀ id p,β id = some p → p.b = b → mutAt H id = true → False) → w'.heap[b]? = w.heap[b]?
  fresh : ∀ id p,H.length ≤ id → β' id = some p → p.b < w.heap.size → ∃ j q,β j = some q ∧ q.b = p.b ∧ mutAt H j = true ∧ liveAt H' j = false
theorem Post.refl (β : Beta) (H : AHeap) (w : World) (hd : ∀ id p,β id = some p → id < H.length) : Post β H w β H w where
  os := rfl
  tape := rfl
  output := rfl
  size := Nat.le_refl _
  len := Nat.le_refl _
  old := fun _ _ => rfl
  dead := fun _ _ h => h
  live := fun _ _ h => h
  frame := fun _ _ _ => rfl
  fresh := fun id p h hb _ => absurd (hd id _ hb) (by omega)
theorem Post.trans {β H w β₁ H₁ w₁ β₂ H₂ w₂} (hd : ∀ id p,β id = some p → id < H.length) (h : Post β H w β₁ H₁ w₁) (k : Post β₁ H₁ w₁ β₂ H₂ w₂) :
    Post β H w β₂ H₂ w₂ where
  os := k.os.trans h.os
  tape := k.tape.trans h.tape
  output := k.output.trans h.output
  size := Nat.le_trans h.size k.size
  len := Nat.le_trans h.len k.len
  old := fun id hi => (k.old id (Nat.lt_of_lt_of_le hi h.len)).trans (h.old id hi)
  dead := fun id hi hm => h.dead id hi (k.dead id (Nat.lt_of_lt_of_le hi h.len) hm)
  live := fun id hi hm => h.live id hi (k.live id (Nat.lt_of_lt_of_le hi h.len) hm)
  frame := fun b hb hn => by
    rw [k.frame b (Nat.lt_of_lt_of_le hb h.size) ?_,h.frame b hb hn]
    intro id p hid hpb hm
    by_cases hlt : id < H.length
    · exact hn id p ((h.old id hlt).symm.trans hid) hpb (h.dead id hlt hm)
    · obtain ⟨j,q,hj,hq,hmj,_⟩ := h.fresh id p (by omega) hid (by omega)
      exact hn j q hj (by omega) hmj
  fresh := fun id p hid hb hlt => by
    by_cases h1 : id < H₁.length
    · obtain ⟨j,q,hj,hq,hmj,hdj⟩ := h.fresh id p hid ((k.old id h1).symm.trans hb) hlt
      refine ⟨j,q,hj,hq,hmj,?_⟩
      have hjl := hd j _ hj
      cases hl : liveAt H₂ j with
      | false => rfl
      | true => have := k.live j (Nat.lt_of_lt_of_le hjl h.len) hl; rw [hdj] at this; cases this
    · obtain ⟨j,q,hj,hq,hmj,hdj⟩ := k.fresh id p (by omega) hb (Nat.lt_of_lt_of_le hlt h.size)
      by_cases h2 : j < H.length
      · exact ⟨j,q,(h.old j h2).symm.trans hj,hq,h.dead j h2 hmj,hdj⟩
      · obtain ⟨j',q',hj',hq',hmj',hdj'⟩ := h.fresh j q (by omega) hj (by omega)
        refine ⟨j',q',hj',by omega,hmj',?_⟩
        have hjl := hd j' _ hj'
        cases hl : liveAt H₂ j' with
        | false => rfl
        | true => have := k.live j' (Nat.lt_of_lt_of_le hjl h.len) hl; rw [hdj'] at this; cases this
theorem Post.le {β H w β' H' w'} (hd : ∀ id p,β id = some p → id < H.length) (h : Post β H w β' H' w') : β.le β' :=
  fun id p hp => (h.old id (hd id p hp)).trans hp
theorem Post.below {P β H base w β' H' w'} (hi : Inj P β H base w) (h : Post β H w β' H' w') : RowKit.Below base w w' :=
  ⟨h.os,h.tape,h.output,h.size,fun k hk => h.frame k (Nat.lt_of_lt_of_le hk hi.base_le) fun id p hid hpk hm => by
    have := hi.obj id p hid
    unfold mutAt at hm
    split at hm
    · rename_i esz vs hH
      rw [hH] at this
      obtain ⟨_,_,_,_,_,hb⟩ := this
      have := (hb rfl).2.2.1
      omega
    · rename_i r hH
      rw [hH] at this
      have := this.2.1
      omega
    · rename_i r hH
      rw [hH] at this
      have := this.2.1
      omega
    · cases hm⟩
theorem ObjRel.same {P β base w w' p x} (h : w'.heap[p.b]? = w.heap[p.b]?) (r : ObjRel P β base w p x) : ObjRel P β base w' p x := by
  match x,r with
  | some (.cells own esz vs),r => simpa only [ObjRel,h] using r
  | some (.loop l),r => simpa only [ObjRel,h] using r
  | some (.map l),r => simpa only [ObjRel,h] using r
  | some (.row l),r => simpa only [ObjRel,h] using r
  | some .dead,r => trivial
theorem ObjRel.mono {P β β' base w p x} (h : β.le β') (r : ObjRel P β base w p x) : ObjRel P β' base w p x := by
  match x,r with
  | some (.cells own esz vs),r =>
    obtain ⟨cs,t,fz,h1,h2,h3⟩ := r
    exact ⟨cs,t,fz,h1,fun i v hv => by obtain ⟨cv,hc,hr⟩ := h2 i v hv; exact ⟨cv,hc,hr.mono h⟩,h3⟩
  | some (.loop l),r =>
    obtain ⟨h1,h2,r',h3,h4⟩ := r
    exact ⟨h1,h2,r',h3,h4.mono h⟩
  | some (.map l),r =>
    obtain ⟨h1,h2,es',clk,h3,h4⟩ := r
    exact ⟨h1,h2,es',clk,h3,h4.mono h⟩
  | some (.row l),r => exact r
  | some .dead,r => trivial
theorem Inj.drew {P β H base w} (h : Inj P β H base w) (n : Nat) : Inj P β H base { w with drawn := n } :=
  ⟨h.base_le,h.globs,h.glob,h.dom,h.lt,fun id p hid => (h.obj id p hid).same rfl,h.own⟩
theorem Post.drew {β H} {w : World} (hd : ∀ id p,β id = some p → id < H.length) (n : Nat) : Post β H w β H { w with drawn := n } :=
  { Post.refl β H w hd with os := rfl,tape := rfl,output := rfl,size := Nat.le_refl _,frame := fun _ _ _ => rfl }
def Env.at (env : Env) (i : Nat) : Value := env.getD i undef
def EnvRel (β : Beta) (env : Env) (tmps : Array Value) : Prop := VRs β env tmps.toList
theorem EnvRel.get {β env tmps} (h : EnvRel β env tmps) (i : Nat) : VR β (env.getD i undef) (tmps.getD i undef) := by
  by_cases hi : i < env.length
  · have h2 : i < tmps.size := by have := h.1; simp at this; omega
    exact h.2 i _ _ (by simp [List.getD,hi]) (by simp [h2])
  · have h2 : ¬ i < tmps.size := by have := h.1; simp at this; omega
    have e1 : env.getD i undef = undef := by simp [List.getD,List.getElem?_eq_none (Nat.le_of_not_lt hi)]
    have e2 : tmps.getD i undef = undef := by simp [h2]
    rw [e1,e2]
    exact .tuple rfl (fun i v v' a _ => by simp at a)
def Env.put (env : Env) (dst : Option Nat) (v : Value) : Env := match dst with | some d => env.set d v | none => env
theorem EnvRel.put {β env} {a : Act} (h : EnvRel β env a.tmps) (dst : Option Nat) {v cv : Value} (hv : VR β v cv) : EnvRel β (env.put dst v) (a.put dst cv).tmps := by
  cases dst with
  | none => exact h
  | some d =>
    refine ⟨by simp [Env.put,Act.put]; exact h.1,fun i x x' hx hx' => ?_⟩
    simp only [Env.put,Act.put,Array.toList_setIfInBounds,List.getElem?_set] at hx hx'
    by_cases hd : d = i
    · subst hd
      simp only [if_true] at hx hx'
      split at hx <;> split at hx' <;> simp_all
    · simp only [hd,if_false] at hx hx'
      exact h.2 i x x' hx hx'
def evalA (env : Env) : Operand → Value
  | .tmp t => env.getD t undef
  | .const v => v
  | .global g => .pointer (some ⟨g,0,none⟩)
  | .func f => .func (.func f) #[] #[]
inductive Closed : Value → Prop
  | bool (b : Bool) : Closed (.bool b)
  | int (k : IntKind) (n : Int) : Closed (.int k n)
  | string (s : ByteArray) : Closed (.string s)
  | ptr : Closed (.pointer none)
  | mapNil : Closed (.map none)
  | slice : Closed (.slice none 0 0)
  | nilFunc : Closed .nilFunc
  | nilIface : Closed .nilIface
  | agg (xs : Array Value) (h : ∀ (i : Nat) v,xs[i]? = some v → Closed v) : Closed (.agg xs)
  | tuple (xs : Array Value) (h : ∀ (i : Nat) v,xs[i]? = some v → Closed v) : Closed (.tuple xs)
theorem Closed.rel {v : Value} (h : Closed v) (β : Beta) : VR β v v := by
  induction h with
  | bool b => exact .bool b
  | int k n => exact .int k n
  | string s => exact .string s
  | ptr => exact .ptrNil
  | mapNil => exact .mapNil
  | slice => exact .sliceNil
  | nilFunc => exact .nilFunc
  | nilIface => exact .nilIface
  | agg xs _ ih => exact .agg rfl fun i v v' a b => by rw [a] at b; cases b; exact ih i v a
  | tuple xs _ ih => exact .tuple rfl fun i v v' a b => by rw [a] at b; cases b; exact ih i v a
theorem constOk_closed {v : Value} (h : constOk v = true) : Closed v := by
  unfold constOk at h
  split at h
  · exact .bool _
  · exact .int _ _
  · exact .string _
  · exact .ptr
  · exact .mapNil
  · exact .slice
  · exact .nilFunc
  · exact .nilIface
  · rename_i xs
    refine .agg _ fun i v hv => ?_
    have hm : v ∈ xs.toList := by simpa using Array.mem_of_getElem? hv
    have := List.all_eq_true.1 h v hm
    split at this <;> first | exact .bool _ | exact .int _ _ | exact .string _ | exact .ptr | exact .slice | exact .nilFunc | exact .nilIface | cases this
  · cases h
end Go.Lq

namespace Go.Lq
open Go
theorem eval_rel {P β H base w env} {a : Act} (hi : Inj P β H base w) (he : EnvRel β env a.tmps) {x : Operand} (hx : opdOk P x = true) :
    VR β (evalA env x) (a.eval x) := by
  cases x with
  | tmp t => exact he.get t
  | const v => exact (constOk_closed hx).rel β
  | global g =>
    have hg : g < P.globals.size := by simpa [opdOk] using hx
    obtain ⟨r,hr⟩ := hi.glob g hg
    have := VR.ptr (off := 0) hr
    simpa [evalA,Act.eval] using this
  | func f => exact .func (.func f) rfl rfl (fun i v v' h _ => by simp at h) (fun i v v' h _ => by simp at h)
def cellAt (H : AHeap) (id k : Nat) : Option Value := match H[id]? with | some (.cells _ _ vs) => vs[k]? | _ => none
def cellsAt (H : AHeap) (id k n : Nat) : Option (List Value) :=
  match H[id]? with | some (.cells _ _ vs) => if k + n ≤ vs.length then some ((vs.drop k).take n) else none | _ => none
def isAtom : Value → Bool | .agg _ | .tuple _ | .chan _ => false | _ => true
def setCells (xs : List Value) (off : Nat) (vs : List Value) : List Value := xs.take off ++ vs ++ xs.drop (off + vs.length)
def storeAt (H : AHeap) (id k : Nat) (vs : List Value) : Option AHeap :=
  match H[id]? with
  | some (.cells true esz xs) => if k + vs.length ≤ xs.length ∧ vs.all isAtom = true then some (H.set id (.cells true esz (setCells xs k vs))) else none
  | _ => none
def fillA (cells : List Value) : List (Nat × Nat × Value) → Option (List Value)
  | [] => some cells
  | (off,size,v) :: rest => if v.cells.size = size ∧ off + size ≤ cells.length ∧ v.cells.toList.all isAtom = true then fillA (setCells cells off v.cells.toList) rest else none
def arithA (op : BinOp) (k : IntKind) (a b : Int) : Option Value :=
  match op with
  | .add => some (.int k (k.wrap (a + b)))
  | .sub => some (.int k (k.wrap (a - b)))
  | .mul => some (.int k (k.wrap (a * b)))
  | .quo => if b = 0 then none else some (.int k (k.wrap (a.tdiv b)))
  | .rem => if b = 0 then none else some (.int k (a.tmod b))
  | _ => none
def cmpA (op : BinOp) (a b : Int) : Option Value :=
  match op with
  | .eql => some (.bool (a == b))
  | .neq => some (.bool (a != b))
  | .lss => some (.bool (a < b))
  | .leq => some (.bool (a ≤ b))
  | .gtr => some (.bool (a > b))
  | .geq => some (.bool (a ≥ b))
  | _ => none
def eqvA : Nat → Value → Value → Option Bool
  | 0,.bool a,.bool b => some (a == b)
  | 1,.pointer none,.pointer b => some b.isNone
  | 1,.pointer (some _),.pointer none => some false
  | 2,.slice none _ _,.slice b _ _ => some b.isNone
  | 2,.slice (some _) _ _,.slice none _ _ => some false
  | 3,.nilFunc,.nilFunc => some true
  | 3,.nilFunc,.func _ _ _ => some false
  | 3,.func _ _ _,.nilFunc => some false
  | 4,.nilIface,.nilIface => some true
  | 4,.nilIface,.iface _ _ => some false
  | 4,.iface _ _,.nilIface => some false
  | _,_,_ => none
def loA : Option Value → Option Int
  | none => some 0
  | some (.int _ n) => some n
  | _ => none
def hiA (len : Nat) : Option Value → Option Int
  | none => some len
  | some (.int _ n) => some n
  | _ => none
def sliceA (size id off len : Nat) (lo hi mx : Option Value) : Option Value :=
  match loA lo,hiA len hi with
  | some l,some h =>
    match mx with
    | none => if 0 ≤ l ∧ l ≤ h ∧ h ≤ len then some (.slice (some ⟨id,off + l.toNat * size,none⟩) (h - l).toNat (if h = l then 1 else (h - l).toNat)) else none
    | some (.int _ m) =>
      if hi.isSome ∧ 0 ≤ l ∧ l ≤ h ∧ h ≤ m ∧ m ≤ len then some (.slice (some ⟨id,off + l.toNat * size,none⟩) (h - l).toNat (if m = h then 0 else (m - l).toNat)) else none
    | _ => none
  | _,_ => none
def roomOk (bytes n : Nat) : Bool := n * bytes ≤ 35184372088832 && n ≤ 35184372088832
def appendA (size bytes : Nat) (H : AHeap) (s x : Value) : Option (Value × AHeap) :=
  match s,x with
  | .slice none 0 0,.slice none 0 0 => some (s,H)
  | .slice none 0 0,.slice (some _) 0 _ => some (s,H)
  | .slice (some _) _ _,.slice none 0 0 => some (s,H)
  | .slice (some _) _ _,.slice (some _) 0 _ => some (s,H)
  | .slice none 0 0,.slice (some ⟨jd,joff,none⟩) n _ =>
    match cellsAt H jd joff (n * size) with
    | some new => if new.all isAtom = true ∧ roomOk bytes n = true then some (.slice (some ⟨H.length,0,none⟩) n n,H ++ [.cells true size new]) else none
    | none => none
  | .slice (some ⟨id,off,none⟩) len c,.slice (some ⟨jd,joff,none⟩) n _ =>
    match cellsAt H jd joff (n * size) with
    | some new =>
      if new.all isAtom = true ∧ roomOk bytes (len + n) = true then
        if c = 0 ∧ len = 0 then some (.slice (some ⟨H.length,0,none⟩) n n,H ++ [.cells true size new])
        else match H[id]? with
          | some (.cells true esz vs) =>
            if esz = size ∧ off = 0 ∧ vs.length = len * size ∧ (0 < len ∨ 2 ≤ c) then
              some (.slice (some ⟨H.length,0,none⟩) (len + n) (len + n),H.set id .dead ++ [.cells true size (vs ++ new)])
            else none
          | _ => none
      else none
    | none => none
  | _,_ => none
def fullS : Value → Bool
  | .slice none 0 0 => true
  | .slice (some _) 0 0 => true
  | _ => false
def appendF (size bytes : Nat) (H : AHeap) (s x : Value) : Option (Value × AHeap) :=
  if fullS s = true then appendA size bytes H s x else
  match s,x with
  | .slice (some ⟨id,off,none⟩) (m + 1) 0,.slice (some ⟨jd,joff,none⟩) (n + 1) _ =>
    match cellsAt H id off ((m + 1) * size),cellsAt H jd joff ((n + 1) * size) with
    | some old,some new => if roomOk bytes (m + 1 + (n + 1)) = true then some (.slice (some ⟨H.length,0,none⟩) (m + 1 + (n + 1)) (m + 1 + (n + 1)),H ++ [.cells true size (old ++ new)]) else none
    | _,_ => none
  | _,_ => none
def copyA (size : Nat) (H : AHeap) (d s : Value) : Option (Value × AHeap) :=
  match d,s with
  | .slice (some ⟨id,off,none⟩) (m + 1) _,.slice (some ⟨jd,joff,none⟩) (n + 1) _ =>
    let k := Nat.min (n + 1) (m + 1)
    match cellsAt H jd joff (k * size) with
    | some new => (storeAt H id off new).map fun H' => (.int .i64 k,H')
    | none => none
  | .slice _ _ _,.slice none 0 0 => some (.int .i64 0,H)
  | .slice none 0 0,.slice (some _) _ _ => some (.int .i64 0,H)
  | .slice (some _) 0 _,.slice (some _) _ _ => some (.int .i64 0,H)
  | .slice (some _) _ _,.slice (some _) 0 _ => some (.int .i64 0,H)
  | _,_ => none
def mostA (mx : Bool) : Value → List Value → Option Value
  | v,[] => some v
  | .int k a,.int _ b :: rest => mostA mx (.int k (if (if mx then b > a else b < a) then b else a)) rest
  | _,_ => none
def eqLeaves (cs ds : Array Value) : List (Nat × Bool) → Option Bool
  | [] => some true
  | (l,false) :: ls =>
    match cs[l]?,ds[l]? with
    | some (.int k a),some (.int k' b) => if k = k' then (eqLeaves cs ds ls).map fun r => (a == b) && r else none
    | _,_ => none
  | (l,true) :: ls =>
    match cs[l]?,ds[l]? with
    | some (.bool a),some (.bool b) => (eqLeaves cs ds ls).map fun r => (a == b) && r
    | _,_ => none
def strA (op : BinOp) (a b : ByteArray) : Option Value :=
  match op with
  | .add => if a.size + b.size ≤ 9223372036854775807 then some (.string (a ++ b)) else none
  | .eql => some (.bool (a.toList == b.toList))
  | .neq => some (.bool !(a.toList == b.toList))
  | .lss => some (.bool (Op.bytesLess a.toList b.toList))
  | .leq => some (.bool (Op.bytesLess a.toList b.toList || a.toList == b.toList))
  | .gtr => some (.bool !(Op.bytesLess a.toList b.toList || a.toList == b.toList))
  | .geq => some (.bool !(Op.bytesLess a.toList b.toList))
  | _ => none
def subS (s : ByteArray) (lo hi : Option Value) : Option Value :=
  match loA lo,hiA s.size hi with
  | some l,some h => if 0 ≤ l ∧ l ≤ h ∧ h ≤ s.size then some (.string (s.extract l.toNat h.toNat)) else none
  | _,_ => none
def idxStr (s : ByteArray) (n : Int) : Option Value := if 0 ≤ n then (s[n.toNat]?).map fun b => .int .u8 b.toNat else none
def findA (ls : List (Nat × Bool)) (cs : Array Value) : List (Array Value × Value) → Nat → Option (Option (Nat × Value))
  | [],_ => some none
  | (ds,v) :: es,i =>
    match eqLeaves cs ds ls with
    | some true => some (some (i,v))
    | some false => findA ls cs es (i + 1)
    | none => none
def gotA (z : Value) (ok : Bool) : Option (Nat × Value) → Value
  | some (_,v) => if ok then .tuple #[v,.bool true] else v
  | none => if ok then .tuple #[z,.bool false] else z
def putA (es : List (Array Value × Value)) (cs : Array Value) (v : Value) : Option (Nat × Value) → Option (List (Array Value × Value))
  | some (i,_) => if Instr.sameBits 10000 (.agg (es.getD i (#[],undef)).1) (.agg cs) = true then some (es.set i (cs,v)) else none
  | none => some (es ++ [(cs,v)])
def keyA (ls : List (Nat × Bool)) (cs : Array Value) : Bool := cs.toList.all isIntV && (eqLeaves cs cs ls == some true)
def oneByte : Value → Option Value | .int .u8 n => some (.string (ByteArray.empty.push (UInt8.ofNat n.toNat))) | _ => none
def ropRun (r : ROp) (ρ : Operand → Value) (H : AHeap) : Option (Value × AHeap) :=
  match r with
  | .mov x => some (ρ x,H)
  | .pick c a b => match ρ c with | .bool t => some (if t then ρ a else ρ b,H) | _ => none
  | .new zero => if zero.all isAtom = true ∧ zero.all constOk = true then some (.pointer (some ⟨H.length,0,none⟩),H ++ [.cells true 0 zero]) else none
  | .box x => if (ρ x).cells.toList.all isAtom = true then some (.pointer (some ⟨H.length,0,none⟩),H ++ [.cells true 0 (ρ x).cells.toList]) else none
  | .build zero parts => if zero.all constOk then (fillA zero (parts.map fun (o,s,x) => (o,s,ρ x))).map fun cs => (.agg cs.toArray,H) else none
  | .buildSlice esz len zero parts =>
    if zero.all constOk then
      match fillA zero (parts.map fun (o,s,x) => (o,s,ρ x)) with
      | some cs => if cs.all isAtom = true then some (.slice (some ⟨H.length,0,none⟩) len len,H ++ [.cells true esz cs]) else none
      | none => none
    else none
  | .load x => match ρ x with | .pointer (some ⟨id,off,none⟩) => (cellAt H id off).map fun v => (v,H) | _ => none
  | .loadN n x => match ρ x with | .pointer (some ⟨id,off,none⟩) => (cellsAt H id off n).map fun vs => (.agg vs.toArray,H) | _ => none
  | .store n a x =>
    match ρ a with
    | .pointer (some ⟨id,off,none⟩) => if (ρ x).cells.size = n then (storeAt H id off (ρ x).cells.toList).map fun H' => (undef,H') else none
    | _ => none
  | .nilCheck x => match ρ x with | .pointer (some a) => some (.pointer (some a),H) | .func (.func f) xs ys => some (.func (.func f) xs ys,H) | _ => none
  | .arith op x y => match ρ x,ρ y with | .int k a,.int k' b => if k = k' then (arithA op k a b).map fun v => (v,H) else none | _,_ => none
  | .cmp op x y => match ρ x,ρ y with | .int k a,.int k' b => if k = k' then (cmpA op a b).map fun v => (v,H) else none | _,_ => none
  | .eqv kind neg x y => (eqvA kind (ρ x) (ρ y)).map fun b => (.bool (neg != b),H)
  | .eqAgg neg ls x y => match ρ x,ρ y with | .agg cs,.agg ds => (eqLeaves cs ds ls).map fun b => (.bool (neg != b),H) | _,_ => none
  | .band x y => match ρ x,ρ y with | .int k a,.int k' b => if k = k' then some (.int k (k.wrap (BitVec.ofInt k.bits a &&& BitVec.ofInt k.bits b).toNat),H) else none | _,_ => none
  | .shr x y => match ρ x,ρ y with | .int k a,.int _ b => if b < 0 then none else some (.int k (a.fdiv (2 ^ min b.toNat k.bits)),H) | _,_ => none
  | .bor x y => match ρ x,ρ y with | .int k a,.int k' b => if k = k' then some (.int k (k.wrap (BitVec.ofInt k.bits a ||| BitVec.ofInt k.bits b).toNat),H) else none | _,_ => none
  | .shl x y => match ρ x,ρ y with | .int k a,.int _ b => if b < 0 then none else some (.int k (k.wrap (a * 2 ^ min b.toNat k.bits)),H) | _,_ => none
  | .idxS x i => match ρ x,ρ i with | .string s,.int _ n => (idxStr s n).map fun v => (v,H) | _,_ => none
  | .lenS x => match ρ x with | .string s => some (.int .i64 s.size,H) | _ => none
  | .strOp op x y => match ρ x,ρ y with | .string a,.string b => (strA op a b).map fun v => (v,H) | _,_ => none
  | .sliceS x lo hi => match ρ x with | .string s => (subS s (lo.map ρ) (hi.map ρ)).map fun v => (v,H) | _ => none
  | .bytesS x => match ρ x with | .string s => some (.slice (some ⟨H.length,0,none⟩) s.size (s.size + 1),H ++ [.cells false 1 (s.data.toList.map fun b => .int .u8 (b.toNat : Int))]) | _ => none
  | .byteS x => match ρ x with | .slice (some ⟨id,off,none⟩) n _ => (if n = 1 then (cellAt H id off).bind oneByte else none).map fun v => (v,H) | _ => none
  | .not x => match ρ x with | .bool b => some (.bool !b,H) | _ => none
  | .neg x => match ρ x with | .int k n => some (.int k (k.wrap (0 - n)),H) | _ => none
  | .conv k x => match ρ x with | .int _ n => some (.int k (k.wrap n),H) | _ => none
  | .mkFunc fn first captured =>
    match fn with
    | .func f => some (.func (.func f) (first.map ρ).toArray (captured.map ρ).toArray,H)
    | _ => none
  | .mkSlice bytes zero l c =>
    match ρ l,ρ c with
    | .int .i64 a,.int .i64 b =>
      if 0 ≤ a ∧ a ≤ b ∧ roomOk bytes b.toNat = true ∧ zero.all isAtom = true ∧ zero.all constOk = true then
        some (.slice (some ⟨H.length,0,none⟩) a.toNat (if b = 0 then 0 else if a = 0 then 2 else a.toNat),H ++ [.cells true zero.length (zeroRow zero (a.toNat * zero.length))])
      else none
    | _,_ => none
  | .slice size x lo hi mx =>
    match ρ x with
    | .slice (some ⟨id,off,none⟩) len _ => (sliceA size id off len (lo.map ρ) (hi.map ρ) (mx.map ρ)).map fun v => (v,H)
    | .slice none 0 0 => (sliceA size 0 0 0 (lo.map ρ) (hi.map ρ) (mx.map ρ)).map fun _ => (.slice none 0 0,H)
    | _ => none
  | .fieldAddr off x => match ρ x with | .pointer (some ⟨id,o,none⟩) => some (.pointer (some ⟨id,o + off,none⟩),H) | _ => none
  | .field off x => match ρ x with | .agg cs => (cs[off]?).map fun v => (v,H) | _ => none
  | .fieldN off n x => match ρ x with | .agg cs => some (.agg (cs.extract off (off + n)),H) | _ => none
  | .idxAddr size x i =>
    match ρ x,ρ i with
    | .slice (some ⟨id,off,none⟩) len _,.int _ n => if 0 ≤ n ∧ n < len then some (.pointer (some ⟨id,off + n.toNat * size,none⟩),H) else none
    | _,_ => none
  | .arrS len x => match ρ x with | .pointer (some ⟨id,0,none⟩) => some (.slice (some ⟨id,0,none⟩) len len,H) | _ => none
  | .idxAddrA len size x i =>
    match ρ x,ρ i with
    | .pointer (some ⟨id,off,none⟩),.int _ n => if 0 ≤ n ∧ n < len then some (.pointer (some ⟨id,off + n.toNat * size,none⟩),H) else none
    | _,_ => none
  | .idxA len x i =>
    match ρ x,ρ i with
    | .agg cs,.int _ n => if 0 ≤ n ∧ n < len then (cs[n.toNat]?).map fun v => (v,H) else none
    | _,_ => none
  | .idxAN len size x i =>
    match ρ x,ρ i with
    | .agg cs,.int _ n => if 0 ≤ n ∧ n < len then some (.agg (cs.extract (n.toNat * size) (n.toNat * size + size)),H) else none
    | _,_ => none
  | .len x => match ρ x with | .slice _ n _ => some (.int .i64 n,H) | _ => none
  | .append size bytes s x => appendA size bytes H (ρ s) (ρ x)
  | .appendF size bytes s x => appendF size bytes H (ρ s) (ρ x)
  | .copy size d s => copyA size H (ρ d) (ρ s)
  | .most mx x xs => (mostA mx (ρ x) (xs.map ρ)).map fun v => (v,H)
  | .extract x i => match ρ x with | .tuple vs => (vs[i]?).map fun v => (v,H) | _ => none
  | .iface t x => some (.iface t (ρ x),H)
  | .makeMap => some (.map (some H.length),H ++ [.map []])
  | .mapGet z ls ok m k =>
    match ρ m,ρ k with
    | .map (some id),.agg cs => match H[id]? with
      | some (.map es) => if constOk z = true ∧ keyA ls cs = true then (findA ls cs es 0).map fun r => (gotA z ok r,H) else none
      | _ => none
    | _,_ => none
  | .mapPut ls m k x =>
    match ρ m,ρ k with
    | .map (some id),.agg cs => match H[id]? with
      | some (.map es) => if keyA ls cs = true then ((findA ls cs es 0).bind fun r => putA es cs (ρ x) r).map fun es' => (undef,H.set id (.map es')) else none
      | _ => none
    | _,_ => none
  | .call _ _ => none
def Ends (P : Program) (s : Sem Next) (w : World) (v : Value) (w' : World) : Prop :=
  s.run P w = .ok (.value v) w' ∨ (s.run P w = .ok .skip w' ∧ v = undef)
end Go.Lq

namespace Go.Lq
open Go
def Beta.ext (β : Beta) (n : Nat) (p : ALoc) : Beta := fun id => if id = n then some p else β id
theorem Beta.ext_self {β : Beta} {n : Nat} {p : ALoc} : β.ext n p n = some p := by simp [Beta.ext]
theorem Beta.ext_ne {β : Beta} {n id : Nat} {p : ALoc} (h : id ≠ n) : β.ext n p id = β id := by simp [Beta.ext,h]
theorem Beta.ext_le {β : Beta} {n : Nat} {p : ALoc} (h : β n = none) : β.le (β.ext n p) := fun id q hq => by
  by_cases e : id = n
  · subst e; rw [h] at hq; cases hq
  · rw [Beta.ext_ne e]; exact hq
theorem Inj.none_at {P β H base w} (hi : Inj P β H base w) : β H.length = none := by
  cases h : β H.length with
  | none => rfl
  | some p => exact absurd (hi.dom _ _ h) (by omega)
theorem mutAt_append {H : AHeap} {xs : List AObj} {id : Nat} (h : id < H.length) : mutAt (H ++ xs) id = mutAt H id := by
  unfold mutAt; rw [List.getElem?_append_left h]
theorem liveAt_append {H : AHeap} {xs : List AObj} {id : Nat} (h : id < H.length) : liveAt (H ++ xs) id = liveAt H id := by
  unfold liveAt; rw [List.getElem?_append_left h]
theorem objRel_of_dead {P β base w w' p} {x : Option AObj} (hl : (match x with | some (.cells _ _ _) => true | some (.loop _) => true | some (.map _) => true | some (.row _) => true | _ => false) = false) (r : ObjRel P β base w p x) :
    ObjRel P β base w' p x := by
  match x,r with
  | some .dead,_ => trivial
theorem Inj.grow {P β H base} {w w' : World} (hi : Inj P β H base w) (x : AObj) (p : ALoc) (hp : p.b < w'.heap.size) (hsz : w.heap.size ≤ w'.heap.size)
    (hold : ∀ k,k < w.heap.size → k ≠ p.b → w'.heap[k]? = w.heap[k]?) (hfree : ∀ id q,β id = some q → q.b = p.b → liveAt H id = false)
    (hx : ObjRel P (β.ext H.length p) base w' p (some x)) : Inj P (β.ext H.length p) (H ++ [x]) base w' := by
  have hle := Beta.ext_le (p := p) hi.none_at
  refine ⟨by have := hi.base_le; omega,by simp; have := hi.globs; omega,fun g hg => ?_,fun id q hq => ?_,fun id q hq => ?_,fun id q hq => ?_,fun i j q q' h1 h2 hb hne hm hl => ?_⟩
  · obtain ⟨r,hr⟩ := hi.glob g hg
    exact ⟨r,hle _ _ hr⟩
  · by_cases e : id = H.length
    · simp [e]
    · rw [Beta.ext_ne e] at hq; have := hi.dom _ _ hq; simp; omega
  · by_cases e : id = H.length
    · subst e; rw [Beta.ext_self] at hq; cases hq; exact hp
    · rw [Beta.ext_ne e] at hq; have := hi.lt _ _ hq; omega
  · by_cases e : id = H.length
    · subst e
      rw [Beta.ext_self] at hq
      cases hq
      simpa using hx
    · rw [Beta.ext_ne e] at hq
      have hlt := hi.dom _ _ hq
      rw [List.getElem?_append_left hlt]
      by_cases hbb : q.b = p.b
      · exact (objRel_of_dead (by have := hfree _ _ hq hbb; unfold liveAt at this; exact this) (hi.obj _ _ hq)).mono hle
      · exact ((hi.obj _ _ hq).same (hold q.b (hi.lt _ _ hq) hbb)).mono hle
  · by_cases e1 : i = H.length
    · subst e1
      have e2 : j ≠ H.length := fun h => hne h.symm
      rw [Beta.ext_self] at h1; rw [Beta.ext_ne e2] at h2
      cases h1
      have := hfree _ _ h2 hb.symm
      rw [liveAt_append (hi.dom _ _ h2)] at hl
      rw [this] at hl; cases hl
    · rw [Beta.ext_ne e1] at h1
      rw [mutAt_append (hi.dom _ _ h1)] at hm
      by_cases e2 : j = H.length
      · subst e2
        rw [Beta.ext_self] at h2
        cases h2
        have := hfree _ _ h1 hb
        rw [liveAt_of_mut hm] at this; cases this
      · rw [Beta.ext_ne e2] at h2
        rw [liveAt_append (hi.dom _ _ h2)] at hl
        exact hi.own i j q q' h1 h2 hb hne hm hl
theorem Inj.push {P β H base} {w w' : World} (hi : Inj P β H base w) (x : AObj) (r : Nat) (ob : Obj) (hh : w'.heap = w.heap.push ob)
    (hx : ObjRel P (β.ext H.length ⟨w.heap.size,0,r⟩) base w' ⟨w.heap.size,0,r⟩ (some x)) :
    Inj P (β.ext H.length ⟨w.heap.size,0,r⟩) (H ++ [x]) base w' :=
  hi.grow x ⟨w.heap.size,0,r⟩ (by rw [hh]; simp) (by rw [hh]; simp) (fun k hk _ => by rw [hh,Array.getElem?_push,if_neg (by omega)])
    (fun id q hq hb => absurd (hi.lt _ _ hq) (by simp at hb; omega)) hx
theorem Post.push {P β H base} {w w' : World} (hi : Inj P β H base w) (x : AObj) (r : Nat) (ob : Obj) (hh : w'.heap = w.heap.push ob)
    (h1 : w'.os = w.os) (h2 : w'.tape = w.tape) (h3 : w'.output = w.output) :
    Post β H w (β.ext H.length ⟨w.heap.size,0,r⟩) (H ++ [x]) w' where
  os := h1
  tape := h2
  output := h3
  size := by rw [hh]; simp
  len := by simp
  old := fun id h => Beta.ext_ne (Nat.ne_of_lt h)
  dead := fun id h hm => by rwa [mutAt_append h] at hm
  live := fun id h hm => by rwa [liveAt_append h] at hm
  frame := fun b hb _ => by rw [hh,Array.getElem?_push,if_neg (by omega)]
  fresh := fun id p hid hb hlt => by
    by_cases e : id = H.length
    · subst e; rw [Beta.ext_self] at hb; cases hb; simp at hlt
    · rw [Beta.ext_ne e] at hb; have := hi.dom _ _ hb; omega
theorem mutAt_set {H : AHeap} {id : Nat} {esz : Nat} {vs vs' : List Value} (hH : H[id]? = some (.cells true esz vs)) (j : Nat) :
    mutAt (H.set id (.cells true esz vs')) j = mutAt H j := by
  have hlt : id < H.length := (List.getElem?_eq_some_iff.1 hH).1
  by_cases e : id = j
  · subst e; unfold mutAt; rw [List.getElem?_set_self hlt,hH]
  · unfold mutAt; rw [List.getElem?_set_ne e]
theorem liveAt_set {H : AHeap} {id : Nat} {esz : Nat} {vs vs' : List Value} (hH : H[id]? = some (.cells true esz vs)) (j : Nat) :
    liveAt (H.set id (.cells true esz vs')) j = liveAt H j := by
  have hlt : id < H.length := (List.getElem?_eq_some_iff.1 hH).1
  by_cases e : id = j
  · subst e; unfold liveAt; rw [List.getElem?_set_self hlt,hH]
  · unfold liveAt; rw [List.getElem?_set_ne e]
theorem mut_of {H : AHeap} {id : Nat} {esz : Nat} {vs : List Value} (hH : H[id]? = some (.cells true esz vs)) : mutAt H id = true := by
  unfold mutAt; rw [hH]
theorem Inj.set {P β H base} {w w' : World} (hi : Inj P β H base w) {id : Nat} {p : ALoc} {esz : Nat} {vs vs' : List Value} (hid : β id = some p) (hH : H[id]? = some (.cells true esz vs))
    (hold : ∀ k,k ≠ p.b → w'.heap[k]? = w.heap[k]?) (hsz : w'.heap.size = w.heap.size)
    (hx : ∃ cs t,w'.heap[p.b]? = some (.cells cs t (0,0)) ∧ p.room * esz ≤ cs.size ∧ ∀ (i : Nat) v,vs'[i]? = some v → ∃ cv,cs[i]? = some cv ∧ VR β v cv) :
    Inj P β (H.set id (.cells true esz vs')) base w' := by
  have hlt : id < H.length := hi.dom _ _ hid
  have hm : mutAt H id = true := mut_of hH
  refine ⟨by have := hi.base_le; omega,by simpa using hi.globs,hi.glob,fun i q hq => by simpa using hi.dom i q hq,fun i q hq => by rw [hsz]; exact hi.lt i q hq,fun i q hq => ?_,fun i j q q' h1 h2 hb hne h3 h4 => ?_⟩
  · by_cases e : id = i
    · subst e
      rw [hid] at hq; cases hq
      have hr := hi.obj _ _ hid
      rw [hH] at hr
      obtain ⟨cs0,t0,fz0,_,_,h3⟩ := hr
      obtain ⟨cs,t,h0,hroom,h⟩ := hx
      rw [List.getElem?_set_self hlt]
      obtain ⟨ho,_,hbase,_⟩ := h3 rfl
      exact ⟨cs,t,(0,0),h0,fun i v hv => by rw [ho]; simpa using h i v hv,fun _ => ⟨ho,rfl,hbase,hroom⟩⟩
    · rw [List.getElem?_set_ne e]
      cases hl : liveAt H i with
      | false => exact objRel_of_dead (by unfold liveAt at hl; exact hl) (hi.obj _ _ hq)
      | true =>
        refine (hi.obj _ _ hq).same (hold q.b fun hbb => ?_)
        exact hi.own id i p q hid hq hbb.symm e hm hl
  · rw [mutAt_set hH] at h3; rw [liveAt_set hH] at h4
    exact hi.own i j q q' h1 h2 hb hne h3 h4
theorem Post.set {P β H base} {w w' : World} (hi : Inj P β H base w) {id : Nat} {p : ALoc} {esz : Nat} {vs vs' : List Value} (hid : β id = some p) (hH : H[id]? = some (.cells true esz vs))
    (hold : ∀ k,k ≠ p.b → w'.heap[k]? = w.heap[k]?) (hsz : w'.heap.size = w.heap.size)
    (h1 : w'.os = w.os) (h2 : w'.tape = w.tape) (h3 : w'.output = w.output) :
    Post β H w β (H.set id (.cells true esz vs')) w' where
  os := h1
  tape := h2
  output := h3
  size := by omega
  len := by simp
  old := fun _ _ => rfl
  dead := fun j hj h => by rwa [mutAt_set hH] at h
  live := fun j hj h => by rwa [liveAt_set hH] at h
  frame := fun k hk hn => hold k fun e => hn id p hid e.symm (mut_of hH)
  fresh := fun i q hid hb hlt => absurd (hi.dom _ _ hb) (by omega)
theorem mutAt_setM {H : AHeap} {id : Nat} {es es' : List (Array Value × Value)} (hH : H[id]? = some (.map es)) (j : Nat) : mutAt (H.set id (.map es')) j = mutAt H j := by
  have hlt : id < H.length := (List.getElem?_eq_some_iff.1 hH).1
  by_cases e : id = j
  · subst e; unfold mutAt; rw [List.getElem?_set_self hlt,hH]
  · unfold mutAt; rw [List.getElem?_set_ne e]
theorem liveAt_setM {H : AHeap} {id : Nat} {es es' : List (Array Value × Value)} (hH : H[id]? = some (.map es)) (j : Nat) : liveAt (H.set id (.map es')) j = liveAt H j := by
  have hlt : id < H.length := (List.getElem?_eq_some_iff.1 hH).1
  by_cases e : id = j
  · subst e; unfold liveAt; rw [List.getElem?_set_self hlt,hH]
  · unfold liveAt; rw [List.getElem?_set_ne e]
theorem mut_ofM {H : AHeap} {id : Nat} {es : List (Array Value × Value)} (hH : H[id]? = some (.map es)) : mutAt H id = true := by
  unfold mutAt; rw [hH]
theorem Inj.setM {P β H base} {w w' : World} (hi : Inj P β H base w) {id : Nat} {p : ALoc} {es es' : List (Array Value × Value)} (hid : β id = some p) (hH : H[id]? = some (.map es))
    (hold : ∀ k,k ≠ p.b → w'.heap[k]? = w.heap[k]?) (hsz : w'.heap.size = w.heap.size)
    (hx : ∃ cs clk,w'.heap[p.b]? = some (.map cs clk) ∧ EntsRel β es' cs.toList) : Inj P β (H.set id (.map es')) base w' := by
  have hlt : id < H.length := hi.dom _ _ hid
  have hm : mutAt H id = true := mut_ofM hH
  refine ⟨by have := hi.base_le; omega,by simpa using hi.globs,hi.glob,fun i q hq => by simpa using hi.dom i q hq,fun i q hq => by rw [hsz]; exact hi.lt i q hq,fun i q hq => ?_,fun i j q q' h1 h2 hb hne h3 h4 => ?_⟩
  · by_cases e : id = i
    · subst e
      rw [hid] at hq; cases hq
      have hr := hi.obj _ _ hid
      rw [hH] at hr
      obtain ⟨h1,h2,_⟩ := hr
      rw [List.getElem?_set_self hlt]
      exact ⟨h1,h2,hx⟩
    · rw [List.getElem?_set_ne e]
      cases hl : liveAt H i with
      | false => exact objRel_of_dead (by unfold liveAt at hl; exact hl) (hi.obj _ _ hq)
      | true =>
        refine (hi.obj _ _ hq).same (hold q.b fun hbb => ?_)
        exact hi.own id i p q hid hq hbb.symm e hm hl
  · rw [mutAt_setM hH] at h3; rw [liveAt_setM hH] at h4
    exact hi.own i j q q' h1 h2 hb hne h3 h4
theorem Post.setM {P β H base} {w w' : World} (hi : Inj P β H base w) {id : Nat} {p : ALoc} {es es' : List (Array Value × Value)} (hid : β id = some p) (hH : H[id]? = some (.map es))
    (hold : ∀ k,k ≠ p.b → w'.heap[k]? = w.heap[k]?) (hsz : w'.heap.size = w.heap.size)
    (h1 : w'.os = w.os) (h2 : w'.tape = w.tape) (h3 : w'.output = w.output) : Post β H w β (H.set id (.map es')) w' where
  os := h1
  tape := h2
  output := h3
  size := by omega
  len := by simp
  old := fun _ _ => rfl
  dead := fun j hj h => by rwa [mutAt_setM hH] at h
  live := fun j hj h => by rwa [liveAt_setM hH] at h
  frame := fun k hk hn => hold k fun e => hn id p hid e.symm (mut_ofM hH)
  fresh := fun i q hid hb hlt => absurd (hi.dom _ _ hb) (by omega)
theorem mutAt_kill {H : AHeap} {id j : Nat} (h : mutAt (H.set id .dead) j = true) : mutAt H j = true := by
  by_cases e : id = j
  · subst e
    unfold mutAt at h
    by_cases hlt : id < H.length
    · rw [List.getElem?_set_self hlt] at h; cases h
    · rw [List.set_eq_of_length_le (by omega)] at h; exact h
  · unfold mutAt at h ⊢; rwa [List.getElem?_set_ne e] at h
theorem liveAt_kill {H : AHeap} {id j : Nat} (h : liveAt (H.set id .dead) j = true) : liveAt H j = true := by
  by_cases e : id = j
  · subst e
    unfold liveAt at h
    by_cases hlt : id < H.length
    · rw [List.getElem?_set_self hlt] at h; cases h
    · rw [List.set_eq_of_length_le (by omega)] at h; exact h
  · unfold liveAt at h ⊢; rwa [List.getElem?_set_ne e] at h
theorem liveAt_killed {H : AHeap} {id : Nat} (hlt : id < H.length) : liveAt (H.set id .dead) id = false := by
  unfold liveAt; rw [List.getElem?_set_self hlt]
theorem Inj.kill {P β H base w} (hi : Inj P β H base w) (id : Nat) : Inj P β (H.set id .dead) base w := by
  refine ⟨hi.base_le,by simpa using hi.globs,hi.glob,fun i q hq => by simpa using hi.dom i q hq,hi.lt,fun i q hq => ?_,fun i j q q' h1 h2 hb hne h3 h4 => hi.own i j q q' h1 h2 hb hne (mutAt_kill h3) (liveAt_kill h4)⟩
  by_cases e : id = i
  · subst e; rw [List.getElem?_set_self (hi.dom _ _ hq)]; trivial
  · rw [List.getElem?_set_ne e]; exact hi.obj i q hq
theorem Post.kill {P β H base w} (hi : Inj P β H base w) (id : Nat) : Post β H w β (H.set id .dead) w where
  os := rfl
  tape := rfl
  output := rfl
  size := Nat.le_refl _
  len := by simp
  old := fun _ _ => rfl
  dead := fun _ _ h => mutAt_kill h
  live := fun _ _ h => liveAt_kill h
  frame := fun _ _ _ => rfl
  fresh := fun i q h hq _ => absurd (hi.dom _ _ hq) (by omega)
theorem Inj.move {P β H base} {w w' : World} (hi : Inj P β H base w) {id : Nat} {p : ALoc} {esz : Nat} {vs vs' : List Value} (hid : β id = some p) (hH : H[id]? = some (.cells true esz vs))
    (hold : ∀ k,k ≠ p.b → w'.heap[k]? = w.heap[k]?) (hsz : w'.heap.size = w.heap.size)
    (hx : ∃ cs t,w'.heap[p.b]? = some (.cells cs t (0,0)) ∧ p.room * esz ≤ cs.size ∧ ∀ (i : Nat) v,vs'[i]? = some v → ∃ cv,cs[i]? = some cv ∧ VR β v cv) :
    Inj P (β.ext H.length p) (H.set id .dead ++ [.cells true esz vs']) base w' := by
  have hk := hi.kill id
  have hlen : (H.set id .dead).length = H.length := by simp
  have hr := hi.obj _ _ hid
  rw [hH] at hr
  obtain ⟨cs0,t0,fz0,_,_,h3⟩ := hr
  obtain ⟨ho,_,hbase,_⟩ := h3 rfl
  have hg := hk.grow (w' := w') (.cells true esz vs') p (by rw [hsz]; exact hi.lt _ _ hid) (by omega) (fun k _ h => hold k h)
    (fun j q hj hb => by
      by_cases e : id = j
      · subst e; exact liveAt_killed (hi.dom _ _ hid)
      · cases hl : liveAt (H.set id .dead) j with
        | false => rfl
        | true => exact (hi.own id j p q hid hj hb.symm e (mut_of hH) (liveAt_kill hl)).elim)
    (by
      obtain ⟨cs,t,h0,hroom,h⟩ := hx
      refine ⟨cs,t,(0,0),h0,fun i v hv => ?_,fun _ => ⟨ho,rfl,hbase,hroom⟩⟩
      obtain ⟨cv,hc,hv⟩ := h i v hv
      exact ⟨cv,by rw [ho]; simpa using hc,hv.mono (Beta.ext_le (by rw [hlen]; exact hi.none_at))⟩)
  rwa [hlen] at hg
theorem Post.move {P β H base} {w w' : World} (hi : Inj P β H base w) {id : Nat} {p : ALoc} {esz : Nat} {vs : List Value} {x : AObj} (hid : β id = some p) (hH : H[id]? = some (.cells true esz vs))
    (hold : ∀ k,k ≠ p.b → w'.heap[k]? = w.heap[k]?) (hsz : w'.heap.size = w.heap.size)
    (h1 : w'.os = w.os) (h2 : w'.tape = w.tape) (h3 : w'.output = w.output) :
    Post β H w (β.ext H.length p) (H.set id .dead ++ [x]) w' where
  os := h1
  tape := h2
  output := h3
  size := by omega
  len := by simp
  old := fun i h => Beta.ext_ne (Nat.ne_of_lt h)
  dead := fun j hj h => by rw [mutAt_append (by simpa using hj)] at h; exact mutAt_kill h
  live := fun j hj h => by rw [liveAt_append (by simpa using hj)] at h; exact liveAt_kill h
  frame := fun k hk hn => hold k fun e => hn id p hid e.symm (mut_of hH)
  fresh := fun i q hid' hb hlt => by
    by_cases e : i = H.length
    · subst e; rw [Beta.ext_self] at hb; cases hb
      have hl := hi.dom _ _ hid
      exact ⟨id,p,hid,rfl,mut_of hH,by rw [liveAt_append (by simpa using hl)]; exact liveAt_killed hl⟩
    · rw [Beta.ext_ne e] at hb; have := hi.dom _ _ hb; omega
end Go.Lq

namespace Go.Lq
open Go
theorem VR.bool_inv {β : Beta} {b : Bool} {v : Value} (h : VR β (.bool b) v) : v = .bool b := by cases h; rfl
theorem VR.int_inv {β : Beta} {k : IntKind} {n : Int} {v : Value} (h : VR β (.int k n) v) : v = .int k n := by cases h; rfl
theorem VR.string_inv {β : Beta} {s : ByteArray} {v : Value} (h : VR β (.string s) v) : v = .string s := by cases h; rfl
theorem VR.ptrNil_inv {β : Beta} {v : Value} (h : VR β (.pointer none) v) : v = .pointer none := by cases h; rfl
theorem VR.ptr_inv {β : Beta} {a : Addr} {v : Value} (h : VR β (.pointer (some a)) v) :
    ∃ p,β a.block = some p ∧ a.spot = none ∧ v = .pointer (some ⟨p.b,p.o + a.off,none⟩) := by
  cases h with | ptr h => exact ⟨_,h,rfl,rfl⟩
theorem VR.sliceNil_inv {β : Beta} {l c : Nat} {v : Value} (h : VR β (.slice none l c) v) : v = .slice none 0 0 ∧ l = 0 ∧ c = 0 := by cases h; simp
theorem VR.slice_inv {β : Beta} {ad : Addr} {len c : Nat} {v : Value} (h : VR β (.slice (some ad) len c) v) :
    ∃ a cap,v = .slice (some a) len cap ∧ len ≤ cap ∧ (c = 0 → cap = len) ∧
      (0 < len ∨ 2 ≤ c → ∃ p,β ad.block = some p ∧ a = ⟨p.b,p.o + ad.off,none⟩ ∧ (ad.off = 0 → cap ≤ p.room)) := by
  cases h with | slice hc h0 ha => exact ⟨_,_,rfl,hc,h0,ha⟩
theorem VR.agg_inv {β : Beta} {xs : Array Value} {v : Value} (h : VR β (.agg xs) v) :
    ∃ xs',v = .agg xs' ∧ xs.size = xs'.size ∧ ∀ (i : Nat) u u',xs[i]? = some u → xs'[i]? = some u' → VR β u u' := by
  cases h with | agg hx h => exact ⟨_,rfl,hx,h⟩
theorem VR.tuple_inv {β : Beta} {xs : Array Value} {v : Value} (h : VR β (.tuple xs) v) :
    ∃ xs',v = .tuple xs' ∧ xs.size = xs'.size ∧ ∀ (i : Nat) u u',xs[i]? = some u → xs'[i]? = some u' → VR β u u' := by
  cases h with | tuple hx h => exact ⟨_,rfl,hx,h⟩
theorem VR.func_inv {β : Beta} {fn : Fn} {xs ys : Array Value} {v : Value} (h : VR β (.func fn xs ys) v) :
    ∃ fn' xs' ys',v = .func fn' xs' ys' ∧ FnRel β fn fn' ∧ VRs β xs.toList xs'.toList ∧ VRs β ys.toList ys'.toList := by
  cases h with
  | func hf hx hy h h' => exact ⟨_,_,_,rfl,hf,⟨by simpa using hx,by simpa using h⟩,⟨by simpa using hy,by simpa using h'⟩⟩
theorem VR.nilFunc_inv {β : Beta} {v : Value} (h : VR β .nilFunc v) : v = .nilFunc := by cases h; rfl
def Sim (P : Program) (β : Beta) (H : AHeap) (base : Nat) (w : World) (s : Sem Next) (v : Value) (H' : AHeap) : Prop :=
  ∃ cv w' β',Ends P s w cv w' ∧ VR β' v cv ∧ Inj P β' H' base w' ∧ Post β H w β' H' w'
theorem Sim.same {P β H base w s v cv} (hi : Inj P β H base w) (hs : s.run P w = .ok (.value cv) w) (hv : VR β v cv) : Sim P β H base w s v H :=
  ⟨cv,w,β,.inl hs,hv,hi,Post.refl β H w hi.dom⟩
section
variable {P : Program} {β : Beta} {H : AHeap} {base : Nat} {w : World} {env : Env} {a : Act}
theorem evals_rel (hi : Inj P β H base w) (he : EnvRel β env a.tmps) {xs : List Operand} (h : ∀ x ∈ xs,opdOk P x = true) : VRs β (xs.map (evalA env)) (xs.map a.eval) :=
  ⟨by simp,fun i v v' h1 h2 => by
    rw [List.getElem?_map] at h1 h2
    cases hx : xs[i]? with
    | none => simp [hx] at h1
    | some x =>
      simp only [hx,Option.map_some,Option.some.injEq] at h1 h2
      subst h1; subst h2
      exact eval_rel hi he (h x (List.mem_of_getElem? hx))⟩
theorem sim_mov (hi : Inj P β H base w) (he : EnvRel β env a.tmps) {x : Operand} (hx : opdOk P x = true) {v H'} (hr : ropRun (.mov x) (evalA env) H = some (v,H')) :
    Sim P β H base w (Pure.pure (Next.value (a.eval x))) v H' := by
  simp only [ropRun,Option.some.injEq,Prod.mk.injEq] at hr
  obtain ⟨rfl,rfl⟩ := hr
  exact .same hi rfl (eval_rel hi he hx)
theorem sim_arith (hi : Inj P β H base w) (he : EnvRel β env a.tmps) {op : BinOp} {t yt : TypeId} {x y : Operand} {o : Oper} (ho : o.op = .binOp op t x y yt)
    (hx : opdOk P x = true) (hy : opdOk P y = true) {v H'} (hop : op = .add ∨ op = .sub ∨ op = .mul ∨ op = .quo ∨ op = .rem)
    (hr : ropRun (.arith op x y) (evalA env) H = some (v,H')) : Sim P β H base w (execOp a.eval o) v H' := by
  simp only [ropRun] at hr
  split at hr
  · rename_i k m k' n h1 h2
    split at hr
    · rename_i hk
      subst hk
      have e1 := eval_rel hi he hx; rw [h1] at e1; have e1 := e1.int_inv
      have e2 := eval_rel hi he hy; rw [h2] at e2; have e2 := e2.int_inv
      have hg : ∀ b : BinOp,eqGuard b t x y (.int k m) (.int k n) = Pure.pure () := fun b => by
        unfold eqGuard; cases b <;> simp
      rcases hop with rfl | rfl | rfl | rfl | rfl
      all_goals simp only [arithA,Option.map_some,Option.some.injEq,Prod.mk.injEq] at hr
      · obtain ⟨rfl,rfl⟩ := hr
        exact .same hi (by simp [execOp,ho,e1,e2,hg,binOp,Op.intArith]) (.int _ _)
      · obtain ⟨rfl,rfl⟩ := hr
        exact .same hi (by simp [execOp,ho,e1,e2,hg,binOp,Op.intArith]) (.int _ _)
      · obtain ⟨rfl,rfl⟩ := hr
        exact .same hi (by simp [execOp,ho,e1,e2,hg,binOp,Op.intArith]) (.int _ _)
      · split at hr
        · simp at hr
        · rename_i h0
          simp only [Option.map_some,Option.some.injEq,Prod.mk.injEq] at hr
          obtain ⟨rfl,rfl⟩ := hr
          exact .same hi (by simp [execOp,ho,e1,e2,hg,binOp,Op.intDiv,h0]) (.int _ _)
      · split at hr
        · simp at hr
        · rename_i h0
          simp only [Option.map_some,Option.some.injEq,Prod.mk.injEq] at hr
          obtain ⟨rfl,rfl⟩ := hr
          exact .same hi (by simp [execOp,ho,e1,e2,hg,binOp,Op.intDiv,h0]) (.int _ _)
    · simp at hr
  · simp at hr
theorem sim_cmp (hi : Inj P β H base w) (he : EnvRel β env a.tmps) {op : BinOp} {t yt : TypeId} {x y : Operand} {o : Oper} (ho : o.op = .binOp op t x y yt)
    (hx : opdOk P x = true) (hy : opdOk P y = true) {v H'} (hop : op = .eql ∨ op = .neq ∨ op = .lss ∨ op = .leq ∨ op = .gtr ∨ op = .geq)
    (hr : ropRun (.cmp op x y) (evalA env) H = some (v,H')) : Sim P β H base w (execOp a.eval o) v H' := by
  simp only [ropRun] at hr
  split at hr
  · rename_i k m k' n h1 h2
    split at hr
    · rename_i hk
      subst hk
      have e1 := eval_rel hi he hx; rw [h1] at e1; have e1 := e1.int_inv
      have e2 := eval_rel hi he hy; rw [h2] at e2; have e2 := e2.int_inv
      have hg : ∀ b : BinOp,eqGuard b t x y (.int k m) (.int k n) = Pure.pure () := fun b => by
        unfold eqGuard; cases b <;> simp
      rcases hop with rfl | rfl | rfl | rfl | rfl | rfl
      all_goals
        simp only [cmpA,Option.map_some,Option.some.injEq,Prod.mk.injEq] at hr
        obtain ⟨rfl,rfl⟩ := hr
        exact .same hi (by simp [execOp,ho,e1,e2,hg,binOp,Op.intCmp]) (.bool _)
    · simp at hr
  · simp at hr
def kindOf : Nat → TypeDesc → Prop
  | 0,.bool => True
  | 1,.pointer _ => True
  | 2,.slice _ => True
  | 3,.func _ _ _ => True
  | _,_ => False
theorem run_underlying' {t : TypeId} {d : TypeDesc} (hd : P.underlying t = some d) (w : World) : (underlying t).run P w = .ok d w := by
  simp [underlying,hd]
section
variable {t : TypeId} (n : Nat)
theorem eqIn_bool (hd : P.underlying t = some .bool) (x y : Bool) : (Op.equalIn (n + 1) t (.bool x) (.bool y)).run P w = .ok (x == y) w := by
  simp [Op.equalIn,run_underlying' hd]
theorem eqIn_ptr1 {e : TypeId} (hd : P.underlying t = some (.pointer e)) (y : Option Addr) : (Op.equalIn (n + 1) t (.pointer none) (.pointer y)).run P w = .ok y.isNone w := by
  simp [Op.equalIn,run_underlying' hd]
theorem eqIn_ptr2 {e : TypeId} (hd : P.underlying t = some (.pointer e)) (y : Addr) : (Op.equalIn (n + 1) t (.pointer (some y)) (.pointer none)).run P w = .ok false w := by
  simp [Op.equalIn,run_underlying' hd]
theorem eqIn_slice1 {e : TypeId} (hd : P.underlying t = some (.slice e)) (y : Option Addr) (l c l' c' : Nat) : (Op.equalIn (n + 1) t (.slice none l c) (.slice y l' c')).run P w = .ok y.isNone w := by
  simp [Op.equalIn,run_underlying' hd]
theorem eqIn_slice2 {e : TypeId} (hd : P.underlying t = some (.slice e)) (y : Addr) (l c l' c' : Nat) : (Op.equalIn (n + 1) t (.slice (some y) l c) (.slice none l' c')).run P w = .ok false w := by
  simp [Op.equalIn,run_underlying' hd]
theorem eqIn_func0 {ps rs : Array TypeId} {vr : Bool} (hd : P.underlying t = some (.func ps rs vr)) : (Op.equalIn (n + 1) t .nilFunc .nilFunc).run P w = .ok true w := by
  simp [Op.equalIn,run_underlying' hd]
theorem eqIn_func1 {ps rs : Array TypeId} {vr : Bool} (hd : P.underlying t = some (.func ps rs vr)) (f : Fn) (xs ys : Array Value) : (Op.equalIn (n + 1) t .nilFunc (.func f xs ys)).run P w = .ok false w := by
  simp [Op.equalIn,run_underlying' hd]
theorem eqIn_func2 {ps rs : Array TypeId} {vr : Bool} (hd : P.underlying t = some (.func ps rs vr)) (f : Fn) (xs ys : Array Value) : (Op.equalIn (n + 1) t (.func f xs ys) .nilFunc).run P w = .ok false w := by
  simp [Op.equalIn,run_underlying' hd]
end
theorem equal_step (t : TypeId) (x y : Value) : Op.equal t x y = Op.equalIn (9999 + 1) t x y := rfl
theorem sim_eqv (hi : Inj P β H base w) (he : EnvRel β env a.tmps) {op : BinOp} {t yt : TypeId} {x y : Operand} {o : Oper} (ho : o.op = .binOp op t x y yt)
    (hx : opdOk P x = true) (hy : opdOk P y = true) {v H'} {neg : Bool} {k : Nat} (hop : op = if neg then .neq else .eql) {d : TypeDesc} (hd : P.underlying t = some d)
    (hk : kindOf k d) (hr : ropRun (.eqv k neg x y) (evalA env) H = some (v,H')) : Sim P β H base w (execOp a.eval o) v H' := by
  simp only [ropRun,Option.map_eq_some_iff,Prod.mk.injEq] at hr
  obtain ⟨b,hb,rfl,rfl⟩ := hr
  have e1 := eval_rel hi he hx
  have e2 := eval_rel hi he hy
  revert e1 e2 hb
  generalize evalA env x = u1
  generalize evalA env y = u2
  intro hb e1 e2
  have key : ∀ c1 c2,a.eval x = c1 → a.eval y = c2 → eqGuard op t x y c1 c2 = Pure.pure () → (Op.equal t c1 c2).run P w = .ok b w →
      (∀ n,binOp op t c1 c2 = (do pure (.bool (neg != (← Op.equal t c1 c2)))) ∨ n = n + 1) → Sim P β H base w (execOp a.eval o) (.bool (neg != b)) H := by
    intro c1 c2 h1 h2 hg hq hbin
    have hbin := (hbin 0).resolve_right (by omega)
    exact .same hi (by simp [execOp,ho,h1,h2,hg,hbin,hq]) (.bool _)
  unfold eqvA at hb
  split at hb <;> simp only [Option.some.injEq,reduceCtorEq] at hb
  all_goals subst hb
  · have h1 := e1.bool_inv; have h2 := e2.bool_inv
    cases d <;> simp only [kindOf] at hk
    refine key _ _ h1 h2 ?_ ?_ (fun n => .inl ?_)
    · unfold eqGuard; cases op <;> simp
    · rw [equal_step]; exact eqIn_bool _ hd _ _
    · subst hop; cases neg <;> simp [binOp]
  · have h1 := e1.ptrNil_inv
    rename_i bb
    cases d <;> simp only [kindOf] at hk
    cases bb with
    | none =>
      have h2 := e2.ptrNil_inv
      refine key _ _ h1 h2 ?_ ?_ (fun n => .inl ?_)
      · unfold eqGuard; cases op <;> simp
      · rw [equal_step]; exact eqIn_ptr1 _ hd _
      · subst hop; cases neg <;> simp [binOp]
    | some ad =>
      obtain ⟨p,_,_,h2⟩ := e2.ptr_inv
      refine key _ _ h1 h2 ?_ ?_ (fun n => .inl ?_)
      · unfold eqGuard; cases op <;> simp
      · rw [equal_step]; exact eqIn_ptr1 _ hd _
      · subst hop; cases neg <;> simp [binOp]
  · obtain ⟨p,_,_,h1⟩ := e1.ptr_inv
    have h2 := e2.ptrNil_inv
    cases d <;> simp only [kindOf] at hk
    refine key _ _ h1 h2 ?_ ?_ (fun n => .inl ?_)
    · unfold eqGuard; cases op <;> simp
    · rw [equal_step]; exact eqIn_ptr2 _ hd _
    · subst hop; cases neg <;> simp [binOp]
  · obtain ⟨h1,_,_⟩ := e1.sliceNil_inv
    rename_i bb _ _ _ _
    cases d <;> simp only [kindOf] at hk
    cases bb with
    | none =>
      obtain ⟨h2,_,_⟩ := e2.sliceNil_inv
      refine key _ _ h1 h2 ?_ ?_ (fun n => .inl ?_)
      · unfold eqGuard; cases op <;> simp
      · rw [equal_step]; exact eqIn_slice1 _ hd _ _ _ _ _
      · subst hop; cases neg <;> simp [binOp]
    | some ad =>
      obtain ⟨_,_,h2,_⟩ := e2.slice_inv
      refine key _ _ h1 h2 ?_ ?_ (fun n => .inl ?_)
      · unfold eqGuard; cases op <;> simp
      · rw [equal_step]; exact eqIn_slice1 _ hd _ _ _ _ _
      · subst hop; cases neg <;> simp [binOp]
  · obtain ⟨_,_,h1,_⟩ := e1.slice_inv
    obtain ⟨h2,_,_⟩ := e2.sliceNil_inv
    cases d <;> simp only [kindOf] at hk
    refine key _ _ h1 h2 ?_ ?_ (fun n => .inl ?_)
    · unfold eqGuard; cases op <;> simp
    · rw [equal_step]; exact eqIn_slice2 _ hd _ _ _ _ _
    · subst hop; cases neg <;> simp [binOp]
  · have h1 := e1.nilFunc_inv; have h2 := e2.nilFunc_inv
    cases d <;> simp only [kindOf] at hk
    refine key _ _ h1 h2 ?_ ?_ (fun n => .inl ?_)
    · unfold eqGuard; cases op <;> simp
    · rw [equal_step]; exact eqIn_func0 _ hd
    · subst hop; cases neg <;> simp [binOp]
  · have h1 := e1.nilFunc_inv
    obtain ⟨_,_,_,h2,_⟩ := e2.func_inv
    cases d <;> simp only [kindOf] at hk
    refine key _ _ h1 h2 ?_ ?_ (fun n => .inl ?_)
    · unfold eqGuard; cases op <;> simp
    · rw [equal_step]; exact eqIn_func1 _ hd _ _ _
    · subst hop; cases neg <;> simp [binOp]
  · obtain ⟨_,_,_,h1,_⟩ := e1.func_inv
    have h2 := e2.nilFunc_inv
    cases d <;> simp only [kindOf] at hk
    refine key _ _ h1 h2 ?_ ?_ (fun n => .inl ?_)
    · unfold eqGuard; cases op <;> simp
    · rw [equal_step]; exact eqIn_func2 _ hd _ _ _
    · subst hop; cases neg <;> simp [binOp]
  all_goals (cases d <;> simp only [kindOf] at hk)
theorem eqIn_if {ms} (n : Nat) {t : TypeId} (hd : P.underlying t = some (.interface ms)) : (Op.equalIn (n + 1) t .nilIface .nilIface).run P w = .ok true w := by
  simp [Op.equalIn,run_underlying' hd]
theorem eqIn_if1 {ms} (n : Nat) {t : TypeId} (hd : P.underlying t = some (.interface ms)) (u : TypeId) (v : Value) : (Op.equalIn (n + 1) t .nilIface (.iface u v)).run P w = .ok false w := by
  simp [Op.equalIn,run_underlying' hd]
theorem eqIn_if2 {ms} (n : Nat) {t : TypeId} (hd : P.underlying t = some (.interface ms)) (u : TypeId) (v : Value) : (Op.equalIn (n + 1) t (.iface u v) .nilIface).run P w = .ok false w := by
  simp [Op.equalIn,run_underlying' hd]
theorem VR.nilIface_inv {c : Value} (h : VR β .nilIface c) : c = .nilIface := by cases h; rfl
theorem VR.iface_inv {t : TypeId} {v c : Value} (h : VR β (.iface t v) c) : ∃ v',c = .iface t v' := by cases h; exact ⟨_,rfl⟩
theorem sim_eqvI (hi : Inj P β H base w) (he : EnvRel β env a.tmps) {op : BinOp} {t yt : TypeId} {x : Operand} {y : Operand} {k : Value} (hyk : y = .const k) {o : Oper} (ho : o.op = .binOp op t x y yt)
    (hx : opdOk P x = true) (hy : opdOk P y = true) {v H'} {neg : Bool} (hop : op = if neg then .neq else .eql) {ms} (hd : P.underlying t = some (.interface ms))
    (hr : ropRun (.eqv 4 neg x y) (evalA env) H = some (v,H')) : Sim P β H base w (execOp a.eval o) v H' := by
  simp only [ropRun,Option.map_eq_some_iff,Prod.mk.injEq] at hr
  obtain ⟨b,hb,rfl,rfl⟩ := hr
  have e1 := eval_rel hi he hx
  have e2 := eval_rel hi he hy
  revert e1 e2 hb
  generalize evalA env x = u1
  generalize evalA env y = u2
  intro hb e1 e2
  have key : ∀ c1 c2,a.eval x = c1 → a.eval y = c2 → eqGuard op t x y c1 c2 = Pure.pure () → (Op.equal t c1 c2).run P w = .ok b w →
      (∀ n,binOp op t c1 c2 = (do pure (.bool (neg != (← Op.equal t c1 c2)))) ∨ n = n + 1) → Sim P β H base w (execOp a.eval o) (.bool (neg != b)) H := by
    intro c1 c2 h1 h2 hg hq hbin
    have hbin := (hbin 0).resolve_right (by omega)
    exact .same hi (by simp [execOp,ho,h1,h2,hg,hbin,hq]) (.bool _)
  unfold eqvA at hb
  split at hb <;> simp only [Option.some.injEq,reduceCtorEq] at hb
  all_goals (try (rename_i hh; exact absurd hh (by decide)))
  all_goals subst hb
  · have h1 := e1.nilIface_inv; have h2 := e2.nilIface_inv
    refine key _ _ h1 h2 ?_ ?_ (fun n => .inl ?_)
    · unfold eqGuard; subst hyk; cases op <;> simp
    · rw [equal_step]; exact eqIn_if _ hd
    · subst hop; cases neg <;> simp [binOp]
  · have h1 := e1.nilIface_inv
    obtain ⟨v2,h2⟩ := e2.iface_inv
    refine key _ _ h1 h2 ?_ ?_ (fun n => .inl ?_)
    · unfold eqGuard; cases op <;> simp
    · rw [equal_step]; exact eqIn_if1 _ hd _ _
    · subst hop; cases neg <;> simp [binOp]
  · have h2 := e2.nilIface_inv
    obtain ⟨v1,h1⟩ := e1.iface_inv
    refine key _ _ h1 h2 ?_ ?_ (fun n => .inl ?_)
    · unfold eqGuard; cases op <;> simp
    · rw [equal_step]; exact eqIn_if2 _ hd _ _
    · subst hop; cases neg <;> simp [binOp]
end
end Go.Lq

namespace Go.Lq
open Go
section
variable {P : Program} {β : Beta} {H : AHeap} {base : Nat} {w : World} {env : Env} {a : Act}
theorem sim_pick (hi : Inj P β H base w) (he : EnvRel β env a.tmps) {c x y : Operand} {o : Oper} (ho : o.op = .pick c x y)
    (hc : opdOk P c = true) (hx : opdOk P x = true) (hy : opdOk P y = true) {v H'}
    (hr : ropRun (.pick c x y) (evalA env) H = some (v,H')) : Sim P β H base w (execOp a.eval o) v H' := by
  simp only [ropRun] at hr
  split at hr
  · rename_i t h1
    simp only [Option.some.injEq,Prod.mk.injEq] at hr
    obtain ⟨rfl,rfl⟩ := hr
    have e1 := eval_rel hi he hc; rw [h1] at e1; have e1 := e1.bool_inv
    cases t with
    | true => exact .same hi (by simp [execOp,ho,e1,asBool]) (eval_rel hi he hx)
    | false => exact .same hi (by simp [execOp,ho,e1,asBool]) (eval_rel hi he hy)
  · simp at hr
theorem sim_not (hi : Inj P β H base w) (he : EnvRel β env a.tmps) {x : Operand} {t : TypeId} {o : Oper} (ho : o.op = .unOp .not t x) (hx : opdOk P x = true) {v H'}
    (hr : ropRun (.not x) (evalA env) H = some (v,H')) : Sim P β H base w (execOp a.eval o) v H' := by
  simp only [ropRun] at hr
  split at hr
  · rename_i t h1
    simp only [Option.some.injEq,Prod.mk.injEq] at hr
    obtain ⟨rfl,rfl⟩ := hr
    have e1 := eval_rel hi he hx; rw [h1] at e1; have e1 := e1.bool_inv
    exact .same hi (by simp [execOp,ho,e1,Op.unary]) (.bool _)
  · simp at hr
theorem sim_neg (hi : Inj P β H base w) (he : EnvRel β env a.tmps) {x : Operand} {t : TypeId} {o : Oper} (ho : o.op = .unOp .neg t x) (hx : opdOk P x = true) {v H'}
    (hr : ropRun (.neg x) (evalA env) H = some (v,H')) : Sim P β H base w (execOp a.eval o) v H' := by
  simp only [ropRun] at hr
  split at hr
  · rename_i k n h1
    simp only [Option.some.injEq,Prod.mk.injEq] at hr
    obtain ⟨rfl,rfl⟩ := hr
    have e1 := eval_rel hi he hx; rw [h1] at e1; have e1 := e1.int_inv
    exact .same hi (by simp [execOp,ho,e1,Op.unary,Op.intArith]) (.int _ _)
  · simp at hr
theorem sim_conv (hi : Inj P β H base w) (he : EnvRel β env a.tmps) {x : Operand} {s t : TypeId} {o : Oper} (ho : o.op = .convert s t x) (hx : opdOk P x = true) {k : IntKind}
    (ht : P.underlying t = some (.int k)) {d : TypeDesc} (hs : P.underlying s = some d) {v H'}
    (hr : ropRun (.conv k x) (evalA env) H = some (v,H')) : Sim P β H base w (execOp a.eval o) v H' := by
  simp only [ropRun] at hr
  split at hr
  · rename_i k' n h1
    simp only [Option.some.injEq,Prod.mk.injEq] at hr
    obtain ⟨rfl,rfl⟩ := hr
    have e1 := eval_rel hi he hx; rw [h1] at e1; have e1 := e1.int_inv
    exact .same hi (by simp [execOp,ho,e1,convert,run_underlying' ht,run_underlying' hs,Conv.intToInt]) (.int _ _)
  · simp at hr
theorem sim_iface (hi : Inj P β H base w) (he : EnvRel β env a.tmps) {x : Operand} {t : TypeId} {o : Oper} (ho : o.op = .makeInterface t x) (hx : opdOk P x = true)
    {d : TypeDesc} (hd : P.underlying t = some d) (hn : ∀ ms,d ≠ .interface ms) {v H'}
    (hr : ropRun (.iface t x) (evalA env) H = some (v,H')) : Sim P β H base w (execOp a.eval o) v H' := by
  simp only [ropRun,Option.some.injEq,Prod.mk.injEq] at hr
  obtain ⟨rfl,rfl⟩ := hr
  refine .same hi ?_ (.iface t (eval_rel hi he hx))
  cases d <;> simp [execOp,ho,Instr.makeInterface,run_underlying' hd] <;> first | rfl | exact hn _ rfl
theorem sim_mkFunc (hi : Inj P β H base w) (he : EnvRel β env a.tmps) {fn : Fn} {xs ys : Array Operand} {o : Oper} (ho : o.op = .makeFunc fn xs ys)
    (hx : ∀ x ∈ xs.toList,opdOk P x = true) (hy : ∀ x ∈ ys.toList,opdOk P x = true) {v H'}
    (hr : ropRun (.mkFunc fn xs.toList ys.toList) (evalA env) H = some (v,H')) : Sim P β H base w (execOp a.eval o) v H' := by
  simp only [ropRun] at hr
  split at hr
  · rename_i f
    simp only [Option.some.injEq,Prod.mk.injEq] at hr
    obtain ⟨rfl,rfl⟩ := hr
    have e1 := evals_rel hi he hx
    have e2 := evals_rel hi he hy
    refine .same (cv := .func (.func f) (xs.map a.eval) (ys.map a.eval)) hi (by simp [execOp,ho,Instr.makeFunc]) (.func (.func f) (by simp) (by simp) (fun i v v' h1 h2 => ?_) (fun i v v' h1 h2 => ?_))
    · exact e1.2 i v v' (by simpa using h1) (by simpa using h2)
    · exact e2.2 i v v' (by simpa using h1) (by simpa using h2)
  · simp at hr
theorem sim_nilCheck (hi : Inj P β H base w) (he : EnvRel β env a.tmps) {x : Operand} {o : Oper} (ho : o.op = .nilCheck x) (hx : opdOk P x = true) {v H'}
    (hr : ropRun (.nilCheck x) (evalA env) H = some (v,H')) : Sim P β H base w (execOp a.eval o) v H' := by
  have e1 := eval_rel hi he hx
  simp only [ropRun] at hr
  split at hr
  · rename_i ad h1
    simp only [Option.some.injEq,Prod.mk.injEq] at hr
    obtain ⟨rfl,rfl⟩ := hr
    rw [h1] at e1
    obtain ⟨p,hp,hs,e⟩ := e1.ptr_inv
    rw [e] at e1
    exact .same hi (by simp [execOp,ho,e]) e1
  · rename_i f xs ys h1
    simp only [Option.some.injEq,Prod.mk.injEq] at hr
    obtain ⟨rfl,rfl⟩ := hr
    rw [h1] at e1
    obtain ⟨fn',xs',ys',e,hf,_⟩ := e1.func_inv
    rw [e] at e1
    cases hf with
    | func f => exact .same hi (by simp [execOp,ho,e]) e1
  · simp at hr
theorem sim_len (hi : Inj P β H base w) (he : EnvRel β env a.tmps) {x : Operand} {t e : TypeId} {o : Oper} (ho : o.op = .call { callee := .builtin .len,args := #[x],argTypes := #[t] })
    (ht : P.underlying t = some (.slice e)) (hx : opdOk P x = true) {v H'}
    (hr : ropRun (.len x) (evalA env) H = some (v,H')) : Sim P β H base w (execOp a.eval o) v H' := by
  have e1 := eval_rel hi he hx
  simp only [ropRun] at hr
  split at hr
  · rename_i ad n c h1
    simp only [Option.some.injEq,Prod.mk.injEq] at hr
    obtain ⟨rfl,rfl⟩ := hr
    rw [h1] at e1
    cases ad with
    | none =>
      obtain ⟨e,rfl,rfl⟩ := e1.sliceNil_inv
      exact .same hi (by simp [execOp,ho,resolve,invoke,builtin,Builtin.len_,e,run_underlying' ht,goInt]) (.int _ _)
    | some ad =>
      obtain ⟨b,cap,e,_⟩ := e1.slice_inv
      exact .same hi (by simp [execOp,ho,resolve,invoke,builtin,Builtin.len_,e,run_underlying' ht,goInt]) (.int _ _)
  · simp at hr
theorem sim_most (hi : Inj P β H base w) (he : EnvRel β env a.tmps) {mx : Bool} {x : Operand} {xs : List Operand} {ts : Array TypeId} {o : Oper}
    (ho : o.op = .call { callee := .builtin (if mx then .max else .min),args := (x :: xs).toArray,argTypes := ts })
    (hok : ∀ y ∈ x :: xs,opdOk P y = true) {v H'} (hr : ropRun (.most mx x xs) (evalA env) H = some (v,H')) : Sim P β H base w (execOp a.eval o) v H' := by
  simp only [ropRun,Option.map_eq_some_iff,Prod.mk.injEq] at hr
  obtain ⟨u,hu,rfl,rfl⟩ := hr
  have key : ∀ (l : List Operand) (v0 cv0 u : Value),(∀ y ∈ l,opdOk P y = true) → VR β v0 cv0 → mostA mx v0 (l.map (evalA env)) = some u → (v0 = u ∧ l = [] ∨ ∃ k n,v0 = .int k n) →
      ∃ cu,VR β u cu ∧ ((l.map a.eval).foldlM (if mx then Builtin.max2 else Builtin.min2) cv0).run P w = .ok cu w := by
    intro l
    induction l with
    | nil => intro v0 cv0 u _ hv h _; simp only [List.map_nil,mostA,Option.some.injEq] at h; subst h; exact ⟨cv0,hv,rfl⟩
    | cons y l ih =>
      intro v0 cv0 u hl hv h hs
      have hy := eval_rel hi he (hl y (by simp))
      simp only [List.map_cons] at h
      unfold mostA at h
      split at h
      · rename_i heq; simp at heq
      · rename_i k m k' n rest e1
        simp only [List.cons.injEq] at e1
        obtain ⟨e1,rfl⟩ := e1
        rw [e1] at hy
        have hci := hv.int_inv
        have hcy := hy.int_inv
        obtain ⟨cu,h1,h2⟩ := ih _ _ u (fun z hz => hl z (by simp [hz])) (.int k _) h (.inr ⟨_,_,rfl⟩)
        refine ⟨cu,h1,?_⟩
        rw [← h2]
        simp only [List.map_cons,List.foldlM_cons,hci,hcy]
        cases mx <;> simp [Builtin.min2,Builtin.max2]
      · cases h
  cases hl : xs with
  | nil =>
    subst hl
    obtain ⟨cu,h1,h2⟩ := key [] _ _ u (by simp) (eval_rel hi he (hok x (by simp))) (by simpa using hu) (.inl ⟨by simpa [mostA] using hu,rfl⟩)
    refine .same hi (cv := cu) ?_ h1
    cases mx <;> simp at h2 <;> subst h2 <;> simp [execOp,ho,resolve,invoke,builtin,Builtin.min_,Builtin.max_]
  | cons y ys =>
    have hint : ∃ k n,evalA env x = .int k n := by
      rw [hl] at hu
      simp only [List.map_cons] at hu
      unfold mostA at hu
      split at hu
      · contradiction
      · rename_i k m k' n rest e1 e2; exact ⟨k,m,by assumption⟩
      · cases hu
    obtain ⟨cu,h1,h2⟩ := key xs _ _ u (fun z hz => hok z (by simp [hz])) (eval_rel hi he (hok x (by simp))) hu (.inr hint)
    subst hl
    refine .same hi (cv := cu) ?_ h1
    have h3 : (builtin (if mx then .max else .min) ts o.type (y :: ys |>.map (fun _ => false) |>.toArray) ((x :: y :: ys).toArray.map a.eval)).run P w = .ok (.value cu) w := by
      cases mx
      · simp only [Bool.false_eq_true,if_false] at h2 ⊢
        have h4 : (Builtin.min_ ts o.type ((x :: y :: ys).toArray.map a.eval)).run P w = .ok cu w := by
          simp only [Builtin.min_,Array.toList_map,List.map_cons]; exact h2
        simp only [builtin,Sem.run_bind,h4]; rfl
      · simp only [if_true] at h2 ⊢
        have h4 : (Builtin.max_ ts o.type ((x :: y :: ys).toArray.map a.eval)).run P w = .ok cu w := by
          simp only [Builtin.max_,Array.toList_map,List.map_cons]; exact h2
        simp only [builtin,Sem.run_bind,h4]; rfl
    have h5 : ∀ cs,builtin (if mx then .max else .min) ts o.type cs ((x :: y :: ys).toArray.map a.eval) = builtin (if mx then .max else .min) ts o.type (y :: ys |>.map (fun _ => false) |>.toArray) ((x :: y :: ys).toArray.map a.eval) := fun cs => by
      cases mx <;> rfl
    simp only [execOp,ho,resolve,Sem.run_bind,Sem.run_pure,Result.andThen_ok,invoke]
    rw [h5]
    exact h3
theorem sim_extract (hi : Inj P β H base w) (he : EnvRel β env a.tmps) {x : Operand} {i : Nat} {o : Oper} (ho : o.op = .extract x i) (hx : opdOk P x = true) {v H'}
    (hr : ropRun (.extract x i) (evalA env) H = some (v,H')) : Sim P β H base w (execOp a.eval o) v H' := by
  have e1 := eval_rel hi he hx
  simp only [ropRun] at hr
  split at hr
  · rename_i vs h1
    simp only [Option.map_eq_some_iff,Prod.mk.injEq] at hr
    obtain ⟨u,hu,rfl,rfl⟩ := hr
    rw [h1] at e1
    obtain ⟨vs',e,hsz,h⟩ := e1.tuple_inv
    obtain ⟨u',hu'⟩ := arr_some hsz hu
    exact .same hi (by simp [execOp,ho,e,Instr.extract,hu']) (h i u u' hu hu')
  · simp at hr
theorem add_eq (ad : Addr) (n : Nat) (h : ad.spot = none) : ad.add n = ⟨ad.block,ad.off + n,none⟩ := by
  obtain ⟨b,o,s⟩ := ad
  simp only at h
  subst h
  unfold Addr.add
  split <;> simp_all
theorem sim_fieldAddr (hi : Inj P β H base w) (he : EnvRel β env a.tmps) {x : Operand} {s : TypeId} {i : Nat} {o : Oper} (ho : o.op = .fieldAddr s x i) (hx : opdOk P x = true)
    {fs : Array Field} (hs : P.underlying s = some (.struct fs)) {f : Field} (hf : fs[i]? = some f) {n : Nat} (hn : sizeAt P f.type = some (n + 1)) {v H'}
    (hr : ropRun (.fieldAddr f.offset x) (evalA env) H = some (v,H')) : Sim P β H base w (execOp a.eval o) v H' := by
  have e1 := eval_rel hi he hx
  simp only [ropRun] at hr
  split at hr
  · rename_i id off h1
    simp only [Option.some.injEq,Prod.mk.injEq] at hr
    obtain ⟨rfl,rfl⟩ := hr
    rw [h1] at e1
    obtain ⟨p,hp,_,e⟩ := e1.ptr_inv
    simp only [sizeAt,Option.map_eq_some_iff] at hn
    obtain ⟨ti,hti,hsz⟩ := hn
    refine .same (cv := .pointer (some ⟨p.b,p.o + (off + f.offset),none⟩)) hi ?_ (.ptr hp)
    simp [execOp,ho,e,Instr.fieldAt,run_underlying' hs,hf,Instr.sureAddr,fieldPlace,sizeOf,typeInfo,hti,hsz,add_eq,Nat.add_assoc]
  · simp at hr
theorem isAgg_run {t : TypeId} {b : Bool} (h : aggAt P t = some b) (w : World) : (isAgg t).run P w = .ok b w := by
  simp only [aggAt,Option.map_eq_some_iff] at h
  obtain ⟨d,hd,hb⟩ := h
  unfold isAgg
  simp only [Sem.run_bind,run_underlying' hd,Result.andThen_ok]
  revert hb
  cases d <;> simp <;> intro h <;> subst h <;> rfl
theorem sizeOf_run {t : TypeId} {n : Nat} (h : sizeAt P t = some n) (w : World) : (sizeOf t).run P w = .ok n w := by
  simp only [sizeAt,Option.map_eq_some_iff] at h
  obtain ⟨i,hi,hn⟩ := h
  simp [sizeOf,typeInfo,hi,hn]
theorem sim_field (hi : Inj P β H base w) (he : EnvRel β env a.tmps) {x : Operand} {s : TypeId} {i : Nat} {o : Oper} (ho : o.op = .field s x i) (hx : opdOk P x = true)
    {fs : Array Field} (hs : P.underlying s = some (.struct fs)) {f : Field} (hf : fs[i]? = some f) (hn : aggAt P f.type = some false) {v H'}
    (hr : ropRun (.field f.offset x) (evalA env) H = some (v,H')) : Sim P β H base w (execOp a.eval o) v H' := by
  have e1 := eval_rel hi he hx
  simp only [ropRun] at hr
  split at hr
  · rename_i cs h1
    simp only [Option.map_eq_some_iff,Prod.mk.injEq] at hr
    obtain ⟨u,hu,rfl,rfl⟩ := hr
    rw [h1] at e1
    obtain ⟨vs',e,hsz,h⟩ := e1.agg_inv
    obtain ⟨u',hu'⟩ := arr_some hsz hu
    exact .same hi (by simp [execOp,ho,e,Instr.field,run_underlying' hs,hf,asAgg,part,isAgg_run hn,hu']) (h _ u u' hu hu')
  · simp at hr
theorem VR.extract {β : Beta} {cs cs' : Array Value} (hsz : cs.size = cs'.size) (h : ∀ (i : Nat) u u',cs[i]? = some u → cs'[i]? = some u' → VR β u u') (i j : Nat) :
    VR β (.agg (cs.extract i j)) (.agg (cs'.extract i j)) := by
  refine .agg (by simp [hsz]) fun k u u' h1 h2 => ?_
  rw [Array.getElem?_extract] at h1 h2
  split at h1 <;> split at h2 <;> first | exact h _ u u' h1 h2 | simp at h1 | simp at h2
theorem sim_fieldN (hi : Inj P β H base w) (he : EnvRel β env a.tmps) {x : Operand} {s : TypeId} {i : Nat} {o : Oper} (ho : o.op = .field s x i) (hx : opdOk P x = true)
    {fs : Array Field} (hs : P.underlying s = some (.struct fs)) {f : Field} (hf : fs[i]? = some f) (hn : aggAt P f.type = some true) {n : Nat} (hsz : sizeAt P f.type = some n) {v H'}
    (hr : ropRun (.fieldN f.offset n x) (evalA env) H = some (v,H')) : Sim P β H base w (execOp a.eval o) v H' := by
  have e1 := eval_rel hi he hx
  simp only [ropRun] at hr
  split at hr
  · rename_i cs h1
    simp only [Option.some.injEq,Prod.mk.injEq] at hr
    obtain ⟨rfl,rfl⟩ := hr
    rw [h1] at e1
    obtain ⟨vs',e,hl,h⟩ := e1.agg_inv
    exact .same hi (by simp [execOp,ho,e,Instr.field,run_underlying' hs,hf,asAgg,part,isAgg_run hn,sizeOf_run hsz]) (VR.extract hl h _ _)
  · simp at hr
theorem sim_idxAddr (hi : Inj P β H base w) (he : EnvRel β env a.tmps) {x y : Operand} {t e : TypeId} {o : Oper} (ho : o.op = .indexAddr t x y) (hx : opdOk P x = true) (hy : opdOk P y = true)
    (ht : P.underlying t = some (.slice e)) {n : Nat} (hn : sizeAt P e = some n) {v H'}
    (hr : ropRun (.idxAddr n x y) (evalA env) H = some (v,H')) : Sim P β H base w (execOp a.eval o) v H' := by
  have e1 := eval_rel hi he hx
  have e2 := eval_rel hi he hy
  simp only [ropRun] at hr
  split at hr
  · rename_i id off len c k i h1 h2
    split at hr
    · rename_i hb
      simp only [Option.some.injEq,Prod.mk.injEq] at hr
      obtain ⟨rfl,rfl⟩ := hr
      rw [h1] at e1; rw [h2] at e2
      obtain ⟨ad,cap,e,_,_,hx⟩ := e1.slice_inv
      obtain ⟨p,hp,rfl,_⟩ := hx (.inl (by omega))
      refine .same (cv := .pointer (some ⟨p.b,p.o + (off + i.toNat * n),none⟩)) hi ?_ (.ptr hp)
      simp [execOp,ho,e,e2.int_inv,Instr.indexAt,asIntOf,run_underlying' ht,hb,sizeOf_run hn,add_eq,Nat.add_assoc]
    · simp at hr
  · simp at hr
theorem sim_idxAddrA (hi : Inj P β H base w) (he : EnvRel β env a.tmps) {x y : Operand} {t e : TypeId} {len : Nat} {o : Oper} (ho : o.op = .indexAddr t x y) (hx : opdOk P x = true) (hy : opdOk P y = true)
    (ht : P.underlying t = some (.array len e)) {n : Nat} (hn : sizeAt P e = some n) {v H'}
    (hr : ropRun (.idxAddrA len n x y) (evalA env) H = some (v,H')) : Sim P β H base w (execOp a.eval o) v H' := by
  have e1 := eval_rel hi he hx
  have e2 := eval_rel hi he hy
  simp only [ropRun] at hr
  split at hr
  · rename_i id off k i h1 h2
    split at hr
    · rename_i hb
      simp only [Option.some.injEq,Prod.mk.injEq] at hr
      obtain ⟨rfl,rfl⟩ := hr
      rw [h1] at e1; rw [h2] at e2
      obtain ⟨p,hp,_,e⟩ := e1.ptr_inv
      refine .same (cv := .pointer (some ⟨p.b,p.o + (off + i.toNat * n),none⟩)) hi ?_ (.ptr hp)
      simp [execOp,ho,e,e2.int_inv,Instr.indexAt,asIntOf,run_underlying' ht,Instr.sureAddr,hb,sizeOf_run hn,add_eq,Nat.add_assoc]
    · simp at hr
  · simp at hr
theorem sim_idxA (hi : Inj P β H base w) (he : EnvRel β env a.tmps) {x y : Operand} {t e : TypeId} {len : Nat} {o : Oper} (ho : o.op = .index t x y) (hx : opdOk P x = true) (hy : opdOk P y = true)
    (ht : P.underlying t = some (.array len e)) (hn : sizeAt P e = some 1) (hag : aggAt P e = some false) {v H'}
    (hr : ropRun (.idxA len x y) (evalA env) H = some (v,H')) : Sim P β H base w (execOp a.eval o) v H' := by
  have e1 := eval_rel hi he hx
  have e2 := eval_rel hi he hy
  simp only [ropRun] at hr
  split at hr
  · rename_i cs k i h1 h2
    split at hr
    · rename_i hb
      simp only [Option.map_eq_some_iff,Prod.mk.injEq] at hr
      obtain ⟨u,hu,rfl,rfl⟩ := hr
      rw [h1] at e1; rw [h2] at e2
      obtain ⟨vs',e,hsz,h⟩ := e1.agg_inv
      obtain ⟨u',hu'⟩ := arr_some hsz hu
      exact .same hi (by simp [execOp,ho,e,e2.int_inv,Instr.index,asIntOf,run_underlying' ht,hb,sizeOf_run hn,part,isAgg_run hag,hu']) (h _ u u' hu hu')
    · simp at hr
  · simp at hr
theorem sim_idxAN (hi : Inj P β H base w) (he : EnvRel β env a.tmps) {x y : Operand} {t e : TypeId} {len : Nat} {o : Oper} (ho : o.op = .index t x y) (hx : opdOk P x = true) (hy : opdOk P y = true)
    (ht : P.underlying t = some (.array len e)) {n : Nat} (hn : sizeAt P e = some n) (hag : aggAt P e = some true) {v H'}
    (hr : ropRun (.idxAN len n x y) (evalA env) H = some (v,H')) : Sim P β H base w (execOp a.eval o) v H' := by
  have e1 := eval_rel hi he hx
  have e2 := eval_rel hi he hy
  simp only [ropRun] at hr
  split at hr
  · rename_i cs k i h1 h2
    split at hr
    · rename_i hb
      simp only [Option.some.injEq,Prod.mk.injEq] at hr
      obtain ⟨rfl,rfl⟩ := hr
      rw [h1] at e1; rw [h2] at e2
      obtain ⟨vs',e,hsz,h⟩ := e1.agg_inv
      exact .same hi (by simp [execOp,ho,e,e2.int_inv,Instr.index,asIntOf,run_underlying' ht,hb,sizeOf_run hn,part,isAgg_run hag]) (VR.extract hsz h _ _)
    · simp at hr
  · simp at hr
end
end Go.Lq

namespace Go.Lq
open Go
section
variable {P : Program} {β : Beta} {H : AHeap} {base : Nat} {w : World} {env : Env} {a : Act}
theorem cell_rel (hi : Inj P β H base w) {id k : Nat} {p : ALoc} {v : Value} (hp : β id = some p) (h : cellAt H id k = some v) :
    ∃ cv,w.cell? ⟨p.b,p.o + k,none⟩ = some cv ∧ VR β v cv := by
  have hr := hi.obj id p hp
  unfold cellAt at h
  split at h
  · rename_i own esz vs hH
    rw [hH] at hr
    obtain ⟨cs,t,fz,h1,h2,_⟩ := hr
    obtain ⟨cv,hc,hv⟩ := h2 k v h
    exact ⟨cv,by simp [World.cell?,h1,hc],hv⟩
  · cases h
theorem add_off (b o : Nat) (j : Nat) : (⟨b,o,none⟩ : Addr).add j = ⟨b,o + j,none⟩ := add_eq _ _ rfl
theorem cells_rel (hi : Inj P β H base w) {id k n : Nat} {p : ALoc} {vs : List Value} (hp : β id = some p) (h : cellsAt H id k n = some vs) :
    ∃ cvs : List Value,vs.length = n ∧ cvs.length = n ∧ VRs β vs cvs ∧ ∀ (j : Nat) cv,cvs[j]? = some cv → w.cell? ((⟨p.b,p.o + k,none⟩ : Addr).add j) = some cv := by
  have hr := hi.obj id p hp
  unfold cellsAt at h
  split at h
  · rename_i own esz us hH
    split at h
    · rename_i hle
      cases h
      rw [hH] at hr
      obtain ⟨cs,t,fz,h1,h2,_⟩ := hr
      have hcs : ∀ j,j < us.length → ∃ cv,cs[p.o + j]? = some cv ∧ VR β (us.getD j undef) cv := fun j hj => by
        obtain ⟨cv,hc,hv⟩ := h2 j us[j] (by simp [hj])
        exact ⟨cv,hc,by simpa [List.getD,hj] using hv⟩
      refine ⟨(List.range n).map fun j => (cs[p.o + k + j]?).getD undef,by simp; omega,by simp,⟨by simp; omega,fun i v v' e1 e2 => ?_⟩,fun j cv e => ?_⟩
      · simp only [List.getElem?_take,List.getElem?_drop] at e1
        split at e1
        · rename_i hin
          rw [List.getElem?_map,List.getElem?_range hin] at e2
          simp only [Option.map_some,Option.some.injEq] at e2
          obtain ⟨cv,hc,hv⟩ := h2 (k + i) v e1
          rw [← Nat.add_assoc] at hc
          rw [hc] at e2
          simp only [Option.getD_some] at e2
          subst e2
          exact hv
        · cases e1
      · by_cases hj : j < n
        · rw [List.getElem?_map,List.getElem?_range hj] at e
          simp only [Option.map_some,Option.some.injEq] at e
          obtain ⟨cv',hc,_⟩ := hcs (k + j) (by omega)
          rw [← Nat.add_assoc] at hc
          rw [hc] at e
          simp only [Option.getD_some] at e
          subst e
          rw [add_off]
          simp [World.cell?,h1,hc]
        · rw [List.getElem?_eq_none (by simp; omega)] at e; cases e
    · cases h
  · cases h
theorem atom_one {v cv : Value} (h : VR β v cv) (hv : isAtom v = true) : cv.oneCell' = true := by
  cases h <;> first | rfl | cases hv
theorem atoms_one {vs cvs : List Value} (h : VRs β vs cvs) (hv : vs.all isAtom = true) : ∀ u ∈ cvs,u.oneCell' = true := fun u hu => by
  obtain ⟨i,hi⟩ := List.mem_iff_getElem?.1 hu
  have hlt : i < vs.length := by have := (List.getElem?_eq_some_iff.1 hi).1; have := h.1; omega
  exact atom_one (h.2 i vs[i] u (by simp [hlt]) hi) (List.all_eq_true.1 hv _ (List.getElem_mem hlt))
theorem sim_load (hi : Inj P β H base w) (he : EnvRel β env a.tmps) {x : Operand} {t : TypeId} {o : Oper} (ho : o.op = .load t x) (hx : opdOk P x = true) (ht : aggAt P t = some false) {v H'}
    (hr : ropRun (.load x) (evalA env) H = some (v,H')) : Sim P β H base w (execOp a.eval o) v H' := by
  have e1 := eval_rel hi he hx
  simp only [ropRun] at hr
  split at hr
  · rename_i id off h1
    simp only [Option.map_eq_some_iff,Prod.mk.injEq] at hr
    obtain ⟨u,hu,rfl,rfl⟩ := hr
    rw [h1] at e1
    obtain ⟨p,hp,_,e⟩ := e1.ptr_inv
    obtain ⟨cv,hc,hv⟩ := cell_rel hi hp hu
    exact .same hi (by simp [execOp,ho,e,Instr.loadAt,Instr.sureAddr,loadVar,isAgg_run ht,hc]) hv
  · simp at hr
theorem sim_loadN (hi : Inj P β H base w) (he : EnvRel β env a.tmps) {x : Operand} {t : TypeId} {o : Oper} (ho : o.op = .load t x) (hx : opdOk P x = true) (ht : aggAt P t = some true)
    {n : Nat} (hn : sizeAt P t = some n) {v H'}
    (hr : ropRun (.loadN n x) (evalA env) H = some (v,H')) : Sim P β H base w (execOp a.eval o) v H' := by
  have e1 := eval_rel hi he hx
  simp only [ropRun] at hr
  split at hr
  · rename_i id off h1
    simp only [Option.map_eq_some_iff,Prod.mk.injEq] at hr
    obtain ⟨us,hu,rfl,rfl⟩ := hr
    rw [h1] at e1
    obtain ⟨p,hp,_,e⟩ := e1.ptr_inv
    obtain ⟨cvs,hl,hl',hv,hc⟩ := cells_rel hi hp hu
    have hld := run_loadCells_list (P := P) w ⟨p.b,p.o + off,none⟩ cvs hc
    rw [hl'] at hld
    refine .same (cv := .agg cvs.toArray) hi (by simp [execOp,ho,e,Instr.loadAt,Instr.sureAddr,loadVar,isAgg_run ht,sizeOf_run hn,hld]) (.agg (by simpa using hv.1) fun i v v' e1 e2 => ?_)
    exact hv.2 i v v' (by simpa using e1) (by simpa using e2)
  · simp at hr
theorem cells_val {v cv : Value} (h : VR β v cv) (hj : ∀ c,v ≠ .chan c) : VRs β v.cells.toList cv.cells.toList := by
  have one : ∀ {x y : Value},VR β x y → VRs β [x] [y] := fun h => ⟨rfl,fun i v v' e1 e2 => by
    cases i with
    | zero => simp at e1 e2; subst e1; subst e2; exact h
    | succ i => simp at e1⟩
  cases h with
  | agg hx h => exact ⟨by simpa [Value.cells] using hx,fun i v v' e1 e2 => h i v v' (by simpa [Value.cells] using e1) (by simpa [Value.cells] using e2)⟩
  | junk v => exact absurd rfl (hj none)
  | bool b => exact one (.bool b)
  | int k n => exact one (.int k n)
  | string s => exact one (.string s)
  | ptrNil => exact one .ptrNil
  | mapNil => exact one .mapNil
  | ptr h => exact one (.ptr h)
  | mapRef h h0 => exact one (.mapRef h h0)
  | sliceNil => exact one .sliceNil
  | slice h0 h1 h2 => exact one (.slice h0 h1 h2)
  | func h0 h1 h2 h3 h4 => exact one (.func h0 h1 h2 h3 h4)
  | nilFunc => exact one .nilFunc
  | nilIface => exact one .nilIface
  | iface t h => exact one (.iface t h)
  | tuple h0 h1 => exact one (.tuple h0 h1)
theorem no_chan {v : Value} (h : v.cells.toList.all isAtom = true) : ∀ c,v ≠ .chan c := fun c e => by
  subst e; simp [Value.cells,isAtom] at h
theorem setCells_len {xs : List Value} {k : Nat} {vs : List Value} (h : k + vs.length ≤ xs.length) : (setCells xs k vs).length = xs.length := by
  simp [setCells]; omega
theorem setCells_get {xs : List Value} {k : Nat} {vs : List Value} (h : k + vs.length ≤ xs.length) (i : Nat) :
    (setCells xs k vs)[i]? = if i < k then xs[i]? else if i < k + vs.length then vs[i - k]? else xs[i]? := by
  unfold setCells
  have h1 : (xs.take k).length = k := by simp; omega
  rw [List.append_assoc]
  by_cases c1 : i < k
  · rw [List.getElem?_append_left (by omega)]; simp [c1]
  · rw [List.getElem?_append_right (by omega),h1]
    by_cases c2 : i < k + vs.length
    · rw [List.getElem?_append_left (by omega)]; simp [c1,c2]
    · rw [List.getElem?_append_right (by omega),List.getElem?_drop]
      simp only [c1,c2,if_false]
      congr 1; omega
theorem store_rel (hi : Inj P β H base w) {id k : Nat} {p : ALoc} {vs cvs : List Value} {H'} (hp : β id = some p) (h : storeAt H id k vs = some H') (hv : VRs β vs cvs) :
    ∃ w',(storeCells ⟨p.b,p.o + k,none⟩ cvs).run P w = .ok () w' ∧ Inj P β H' base w' ∧ Post β H w β H' w' := by
  have hr := hi.obj id p hp
  unfold storeAt at h
  split at h
  · rename_i esz xs hH
    split at h
    · rename_i hc
      cases h
      rw [hH] at hr
      obtain ⟨cs,t,fz,h1,h2,h3⟩ := hr
      obtain ⟨ho,rfl,hbase,hroom⟩ := h3 rfl
      rw [ho] at h2
      simp only [Nat.zero_add] at h2
      have hlen : xs.length ≤ cs.size := by
        rcases Nat.lt_or_ge cs.size xs.length with hlt | hge
        · obtain ⟨cv,hcv,_⟩ := h2 cs.size xs[cs.size] (by simp [hlt])
          simp at hcv
        · exact hge
      have hl := hv.1
      have hst := run_storeCells_at P p.b k t cvs 0 cs w h1 (by omega) (atoms_one hv hc.2)
      simp only [Nat.add_zero] at hst
      rw [ho,Nat.zero_add]
      have hold : ∀ j,j ≠ p.b → (w.setRow p.b (cs.toList.take k ++ cvs ++ cs.toList.drop (k + cvs.length)).toArray).heap[j]? = w.heap[j]? := fun j hj => setRow_other w p.b j _ hj
      have hsz : (w.setRow p.b (cs.toList.take k ++ cvs ++ cs.toList.drop (k + cvs.length)).toArray).heap.size = w.heap.size := by simp [World.setRow]
      refine ⟨_,hst,hi.set hp hH hold hsz ⟨_,t,setRow_heap w p.b cs _ t _ h1,?_,fun i v hiv => ?_⟩,Post.set hi hp hH hold hsz rfl rfl rfl⟩
      · simp; omega
      · have e2 := setCells_get (xs := cs.toList) (k := k) (vs := cvs) (by simp; omega) i
        simp only [setCells] at e2
        rw [List.getElem?_toArray,e2]
        rw [setCells_get hc.1 i] at hiv
        split at hiv
        · rename_i c1
          obtain ⟨cv,hcv,hvv⟩ := h2 i v hiv
          exact ⟨cv,by simp [c1,hcv],hvv⟩
        · rename_i c1
          split at hiv
          · rename_i c2
            have : i - k < cvs.length := by omega
            exact ⟨cvs[i - k],by simp [c1,show i < k + cvs.length by omega,this],hv.2 (i - k) v _ hiv (by simp [this])⟩
          · rename_i c2
            obtain ⟨cv,hcv,hvv⟩ := h2 i v hiv
            exact ⟨cv,by simp [c1,show ¬ i < k + cvs.length by omega,hcv],hvv⟩
    · cases h
  · cases h
theorem undef_rel : VR β undef undef := .tuple rfl fun i v v' h _ => by simp at h
theorem storeAt_atoms {id k : Nat} {vs : List Value} {H'} (h : storeAt H id k vs = some H') : vs.all isAtom = true := by
  unfold storeAt at h
  split at h
  · split at h
    · rename_i hc; exact hc.2
    · cases h
  · cases h
theorem sim_store (hi : Inj P β H base w) (he : EnvRel β env a.tmps) {x y : Operand} {t : TypeId} {o : Oper} (ho : o.op = .store t x y) (hx : opdOk P x = true) (hy : opdOk P y = true)
    {n : Nat} (hn : sizeAt P t = some n) {v H'}
    (hr : ropRun (.store n x y) (evalA env) H = some (v,H')) : Sim P β H base w (execOp a.eval o) v H' := by
  have e1 := eval_rel hi he hx
  have e2 := eval_rel hi he hy
  simp only [ropRun] at hr
  split at hr
  · rename_i id off h1
    split at hr
    · rename_i hsz
      simp only [Option.map_eq_some_iff,Prod.mk.injEq] at hr
      obtain ⟨H1,hs,rfl,rfl⟩ := hr
      rw [h1] at e1
      obtain ⟨p,hp,_,e⟩ := e1.ptr_inv
      have hcs := cells_val e2 (no_chan (storeAt_atoms hs))
      obtain ⟨w',hw,hi',hpost⟩ := store_rel hi hp hs hcs
      have hl : (a.eval y).cells.size = n := by have := hcs.1; simp at this; omega
      refine ⟨undef,w',β,.inr ⟨?_,rfl⟩,undef_rel,hi',hpost⟩
      simp [execOp,ho,e,Instr.storeAt,Instr.sureAddr,storeVar,sizeOf_run hn,hl,hw]
    · cases hr
  · simp at hr
theorem sim_new (hi : Inj P β H base w) {s : Sem Next} {w' : World} {cs : Array Value} {t : TypeId} {esz room : Nat} {vs : List Value} {v : Value} {cv : Value}
    (hs : s.run P w = .ok (.value cv) w') (hh : w'.heap = w.heap.push (.cells cs t (0,0))) (h1 : w'.os = w.os) (h2 : w'.tape = w.tape) (h3 : w'.output = w.output)
    (hroom : room * esz ≤ cs.size) (hcs : ∀ (i : Nat) u,vs[i]? = some u → ∃ cu,cs[i]? = some cu ∧ VR β u cu)
    (hv : VR (β.ext H.length ⟨w.heap.size,0,room⟩) v cv) : Sim P β H base w s v (H ++ [.cells true esz vs]) := by
  refine ⟨cv,w',β.ext H.length ⟨w.heap.size,0,room⟩,.inl hs,hv,hi.push (.cells true esz vs) room _ hh ?_,Post.push hi _ room _ hh h1 h2 h3⟩
  refine ⟨cs,t,(0,0),by rw [hh]; simp,fun i u hu => ?_,fun _ => ⟨rfl,rfl,hi.base_le,hroom⟩⟩
  obtain ⟨cu,hc,hr⟩ := hcs i u hu
  exact ⟨cu,by simpa using hc,hr.mono (Beta.ext_le hi.none_at)⟩
theorem VRs.cells {vs cvs : List Value} (h : VRs β vs cvs) : ∀ (i : Nat) u,vs[i]? = some u → ∃ cu,cvs.toArray[i]? = some cu ∧ VR β u cu := fun i u hu => by
  have hlt : i < cvs.length := by have := (List.getElem?_eq_some_iff.1 hu).1; have := h.1; omega
  exact ⟨cvs[i],by simp [hlt],h.2 i u _ hu (by simp [hlt])⟩
theorem sim_box (hi : Inj P β H base w) (he : EnvRel β env a.tmps) {x : Operand} {t : TypeId} {o : Oper} (ho : o.op = .box t x) (hx : opdOk P x = true) {v H'}
    (hr : ropRun (.box x) (evalA env) H = some (v,H')) : Sim P β H base w (execOp a.eval o) v H' := by
  have e1 := eval_rel hi he hx
  simp only [ropRun] at hr
  split at hr
  · rename_i hat
    simp only [Option.some.injEq,Prod.mk.injEq] at hr
    obtain ⟨rfl,rfl⟩ := hr
    have hcs := cells_val e1 (no_chan hat)
    refine sim_new (room := 0) (cs := (a.eval x).cells) (t := t) hi (cv := .pointer (some ⟨w.heap.size,0,none⟩)) (w' := { w with heap := w.heap.push (.cells (a.eval x).cells t) }) ?_ rfl rfl rfl rfl (by simp) (fun i u hu => ?_) ?_
    · simp [execOp,ho,Instr.box,newVar,newRow]
    · simpa using hcs.cells i u hu
    · have := VR.ptr (off := 0) (Beta.ext_self (β := β) (n := H.length) (p := ⟨w.heap.size,0,0⟩))
      simpa using this
  · cases hr
theorem closed_all {vs : List Value} (h : vs.all constOk = true) : VRs β vs vs := ⟨rfl,fun i v v' e1 e2 => by
  rw [e1] at e2; cases e2
  exact (constOk_closed (List.all_eq_true.1 h v (List.mem_of_getElem? e1))).rel β⟩
theorem sim_alloc (hi : Inj P β H base w) {t : TypeId} {o : Oper} (ho : o.op = .alloc t) {z : List Value} (hz : zeroAt P t = some z) {v H'}
    (hr : ropRun (.new z) (evalA env) H = some (v,H')) : Sim P β H base w (execOp a.eval o) v H' := by
  simp only [ropRun] at hr
  split at hr
  · rename_i hat
    have hc := hat.2
    simp only [Option.some.injEq,Prod.mk.injEq] at hr
    obtain ⟨rfl,rfl⟩ := hr
    simp only [zeroAt,Option.map_eq_some_iff,Option.bind_eq_some_iff] at hz
    obtain ⟨zv,⟨ti,hti,hzv⟩,rfl⟩ := hz
    refine sim_new (room := 0) (cs := zv.cells) (t := t) hi (cv := .pointer (some ⟨w.heap.size,0,none⟩)) (w' := { w with heap := w.heap.push (.cells zv.cells t) }) ?_ rfl rfl rfl rfl (by simp) (fun i u hu => ?_) ?_
    · simp [execOp,ho,Instr.alloc,zeroValue,typeInfo,hti,hzv,newVar,newRow]
    · simpa using (closed_all (β := β) hc).cells i u hu
    · have := VR.ptr (off := 0) (Beta.ext_self (β := β) (n := H.length) (p := ⟨w.heap.size,0,0⟩))
      simpa using this
  · cases hr
end
end Go.Lq

namespace Go.Lq
open Go
theorem fold_set (off : Nat) : ∀ (l : List Value) (k : Nat) (cs : Array Value),off + k + l.length ≤ cs.size →
    ((l.zipIdx k).foldl (fun cs (p : Value × Nat) => cs.setIfInBounds (off + p.2) p.1) cs).toList = setCells cs.toList (off + k) l
  | [],k,cs,_ => by simp [setCells]
  | v :: l,k,cs,h => by
    simp only [List.length_cons] at h
    simp only [List.zipIdx_cons,List.foldl_cons]
    rw [fold_set off l (k + 1) _ (by simp; omega)]
    apply List.ext_getElem?
    intro i
    rw [setCells_get (by simp; omega),setCells_get (by simp; omega)]
    simp only [Array.toList_setIfInBounds,List.getElem?_set,List.length_cons,Array.length_toList]
    by_cases h1 : i < off + k
    · simp [h1,show i < off + (k + 1) by omega,show ¬ (off + k = i) by omega]
    · by_cases h2 : i = off + k
      · subst h2; simp [show off + k < off + (k + 1) by omega,show off + k < cs.size by omega]
      · simp only [h1,if_false,show ¬ i < off + (k + 1) by omega,show ¬ (off + k = i) by omega]
        by_cases h3 : i < off + k + (l.length + 1)
        · simp only [h3,if_true,show i < off + (k + 1) + l.length by omega]
          rw [show i - (off + k) = (i - (off + (k + 1))) + 1 by omega,List.getElem?_cons_succ]
        · simp [h3,show ¬ i < off + (k + 1) + l.length by omega]
theorem fold_set' (off : Nat) (xs cs : Array Value) (h : off + xs.size ≤ cs.size) :
    (xs.zipIdx.foldl (fun cs (p : Value × Nat) => cs.setIfInBounds (off + p.2) p.1) cs).toList = setCells cs.toList off xs.toList := by
  have := fold_set off xs.toList 0 cs (by simpa using h)
  rw [← Array.foldl_toList,Array.toList_zipIdx]
  simpa using this
section
variable {P : Program} {β : Beta} {H : AHeap} {base : Nat} {w : World} {env : Env} {a : Act}
theorem VRs.setCells {xs cxs vs cvs : List Value} (hx : VRs β xs cxs) (hv : VRs β vs cvs) {k : Nat} (h : k + vs.length ≤ xs.length) : VRs β (setCells xs k vs) (setCells cxs k cvs) := by
  have e1 := hx.1
  have e2 := hv.1
  refine ⟨by rw [setCells_len h,setCells_len (by omega)]; exact e1,fun i v v' a b => ?_⟩
  rw [setCells_get h] at a
  rw [setCells_get (by omega),← e2] at b
  split at a
  · rename_i c; simp only [c,if_true] at b; exact hx.2 i v v' a b
  · rename_i c
    simp only [c,if_false] at b
    split at a
    · rename_i c2; simp only [c2,if_true] at b; exact hv.2 _ v v' a b
    · rename_i c2; simp only [c2,if_false] at b; exact hx.2 i v v' a b
theorem fill_rel (hi : Inj P β H base w) (he : EnvRel β env a.tmps) (place : Nat → Option (Nat × Nat)) : ∀ (ps : List (Nat × Operand)) (qs : List (Nat × Nat × Operand)) (cells out : List Value) (ccells : Array Value),
    (∀ q ∈ ps,opdOk P q.2 = true) → partsAt place ps = some qs → VRs β cells ccells.toList → fillA cells (qs.map fun (o,s,x) => (o,s,evalA env x)) = some out →
    ∃ cout,Instr.fill place ccells (ps.map fun q => (q.1,a.eval q.2)) = some cout ∧ VRs β out cout.toList
  | [],qs,cells,out,ccells,_,hp,hv,h => by
    simp only [partsAt,List.mapM_nil,Option.pure_def,Option.some.injEq] at hp
    subst hp
    simp only [List.map_nil,fillA,Option.some.injEq] at h
    subst h
    exact ⟨ccells,rfl,hv⟩
  | (i,x) :: ps,qs,cells,out,ccells,hok,hp,hv,h => by
    simp only [partsAt,List.mapM_cons,Option.pure_def,Option.bind_eq_bind,Option.bind_eq_some_iff,Option.map_eq_some_iff,Option.some.injEq] at hp
    obtain ⟨q,⟨⟨o,s⟩,hpl,rfl⟩,qs',hqs,rfl⟩ := hp
    simp only [List.map_cons,fillA] at h
    split at h
    · rename_i hc
      obtain ⟨h1,h2,h3⟩ := hc
      have hx := cells_val (eval_rel hi he (hok (i,x) (by simp))) (no_chan h3)
      have hsz : (a.eval x).cells.size = s := by have := hx.1; simp at this; omega
      have hcl : ccells.size = cells.length := by have := hv.1; simp at this; omega
      have hfold := fold_set' o (a.eval x).cells ccells (by omega)
      have hv' := hv.setCells hx (k := o) (by simp; omega)
      rw [← hfold] at hv'
      obtain ⟨cout,hc,ho⟩ := fill_rel hi he place ps qs' _ out _ (fun q hq => hok q (by simp [hq])) hqs hv' h
      refine ⟨cout,?_,ho⟩
      simp only [List.map_cons,Instr.fill,hpl]
      rw [if_neg (by simp; omega)]
      exact hc
    · cases h
theorem mapM_sizes (fs : Array Field) {ps : List (Nat × Nat)} (h : (fs.toList.mapM fun f => (sizeAt P f.type).map fun s => (f.offset,s)) = some ps) :
    (fs.mapM (m := Sem) fun f => Prod.mk f.offset <$> sizeOf f.type).run P w = .ok ps.toArray w := by
  rw [← Array.toArray_toList (xs := fs)]
  generalize fs.toList = l at h ⊢
  rw [List.mapM_toArray]
  have key : ∀ (l : List Field) (ps : List (Nat × Nat)),(l.mapM fun f => (sizeAt P f.type).map fun s => (f.offset,s)) = some ps →
      (l.mapM (m := Sem) fun f => Prod.mk f.offset <$> sizeOf f.type).run P w = .ok ps w := by
    intro l
    induction l with
    | nil => intro ps h; simp at h; subst h; simp
    | cons f l ih =>
      intro ps h
      simp only [List.mapM_cons,Option.pure_def,Option.bind_eq_bind,Option.bind_eq_some_iff,Option.map_eq_some_iff,Option.some.injEq] at h
      obtain ⟨q,⟨s,hs,rfl⟩,ps',hps,rfl⟩ := h
      simp [List.mapM_cons,sizeOf_run hs,ih ps' hps]
  simp [key l ps h]
theorem zeroValue_run {t : TypeId} {z : List Value} (hz : zeroAt P t = some z) : ∃ zv : Value,zv.cells.toList = z ∧ ∀ w : World,(zeroValue t).run P w = .ok zv w := by
  simp only [zeroAt,Option.map_eq_some_iff,Option.bind_eq_some_iff] at hz
  obtain ⟨zv,⟨ti,hti,hzv⟩,rfl⟩ := hz
  exact ⟨zv,rfl,fun w => by simp [zeroValue,typeInfo,hti,hzv]⟩
theorem sim_build (hi : Inj P β H base w) (he : EnvRel β env a.tmps) {t : TypeId} {parts : Array (Nat × Operand)} {o : Oper} (ho : o.op = .build t parts)
    (hx : ∀ q ∈ parts.toList,opdOk P q.2 = true) {z : List Value} (hz : zeroAt P t = some z) {qs : List (Nat × Nat × Operand)} {place : Nat → Option (Nat × Nat)} (hq : partsAt place parts.toList = some qs)
    (hp : (∃ fs ps,P.underlying t = some (.struct fs) ∧ (fs.toList.mapM fun f => (sizeAt P f.type).map fun s => (f.offset,s)) = some ps ∧ place = (ps[·]?)) ∨
      (∃ n e s,P.underlying t = some (.array n e) ∧ sizeAt P e = some s ∧ place = fun i => some (i * s,s))) {v H'}
    (hr : ropRun (.build z qs) (evalA env) H = some (v,H')) : Sim P β H base w (execOp a.eval o) v H' := by
  simp only [ropRun] at hr
  split at hr
  · rename_i hc
    simp only [Option.map_eq_some_iff,Prod.mk.injEq] at hr
    obtain ⟨out,hf,rfl,rfl⟩ := hr
    obtain ⟨zv,rfl,hzr⟩ := zeroValue_run hz
    obtain ⟨cout,hfc,hv⟩ := fill_rel hi he place parts.toList qs zv.cells.toList out zv.cells hx hq (closed_all hc) hf
    refine .same (cv := .agg cout) hi ?_ (.agg (by simpa using hv.1) fun i u u' e1 e2 => hv.2 i u u' (by simpa using e1) (by simpa using e2))
    rcases hp with ⟨fs,ps,hd,hps,rfl⟩ | ⟨n,e,s,hd,hs,rfl⟩
    · have := mapM_sizes (w := w) fs hps
      simp [execOp,ho,Instr.build,hzr,run_underlying' hd,this,hfc]
    · simp [execOp,ho,Instr.build,hzr,run_underlying' hd,sizeOf_run hs,hfc]
  · cases hr
theorem zeroRow_eq (zv : Array Value) (n : Nat) : ((Array.range n).map (zv[· % zv.size]!)).toList = zeroRow zv.toList n := by
  simp only [zeroRow,Array.toList_map,Array.toList_range,Array.length_toList]
  refine List.map_congr_left fun i _ => ?_
  rw [getElem!_def]
  simp only [List.getD,Array.getElem?_toList]
  cases zv[i % zv.size]? <;> rfl
theorem sim_buildSlice (hi : Inj P β H base w) (he : EnvRel β env a.tmps) {t e : TypeId} {len : Nat} {parts : Array (Nat × Operand)} {o : Oper} (ho : o.op = .buildSlice t len parts)
    (hx : ∀ q ∈ parts.toList,opdOk P q.2 = true) (ht : P.underlying t = some (.slice e)) {s : Nat} (hs : sizeAt P e = some s) {z : List Value} (hz : zeroAt P e = some z)
    {qs : List (Nat × Nat × Operand)} (hle : len * s ≤ 16777216) (hne : len * s ≠ 0) (hq : partsAt (fun i => some (i * s,s)) parts.toList = some qs) {v H'}
    (hr : ropRun (.buildSlice s len (zeroRow z (len * s)) qs) (evalA env) H = some (v,H')) : Sim P β H base w (execOp a.eval o) v H' := by
  simp only [ropRun] at hr
  split at hr
  · rename_i hc
    split at hr
    · rename_i cs hf
      split at hr
      · rename_i hat
        simp only [Option.some.injEq,Prod.mk.injEq] at hr
        obtain ⟨rfl,rfl⟩ := hr
        obtain ⟨zv,rfl,hzr⟩ := zeroValue_run hz
        obtain ⟨cout,hfc,hv⟩ := fill_rel hi he _ parts.toList qs _ cs ((Array.range (len * s)).map (zv.cells[· % zv.cells.size]!)) hx hq (by rw [zeroRow_eq]; exact closed_all hc) hf
        have hlen : cs.length = len * s := by
          have : ∀ (l : List (Nat × Nat × Value)) (xs ys : List Value),fillA xs l = some ys → ys.length = xs.length := by
            intro l
            induction l with
            | nil => intro xs ys h; simp [fillA] at h; subst h; rfl
            | cons q l ih =>
              intro xs ys h
              simp only [fillA] at h
              split at h
              · rename_i hcc
                rw [ih _ _ h,setCells_len]
                simp; omega
              · cases h
          rw [this _ _ _ hf]; simp [zeroRow]
        refine sim_new (room := len) (cs := cout) (t := e) hi (cv := .slice (some ⟨w.heap.size,0,none⟩) len len) (w' := { w with heap := w.heap.push (.cells cout e) }) ?_ rfl rfl rfl rfl ?_ (fun i u hu => ?_) ?_
        · have hle' : ¬ (len * s > 2 ^ 24) := by omega
          simp only [execOp,ho,Instr.buildSlice,Sem.run_bind,run_underlying' ht,Result.andThen_ok,sizeOf_run hs,if_neg hle',if_neg hne,Sem.run_pure,hzr]
          simp [hfc,newRow]
        · have := hv.1; simp at this; omega
        · simpa using hv.cells i u hu
        · refine .slice (Nat.le_refl _) (fun _ => rfl) fun _ => ⟨_,Beta.ext_self,by simp,fun _ => Nat.le_refl _⟩
      · cases hr
    · cases hr
  · cases hr
theorem sim_buildSlice0 (hi : Inj P β H base w) {t e : TypeId} {len : Nat} {parts : Array (Nat × Operand)} {o : Oper} (ho : o.op = .buildSlice t len parts)
    (ht : P.underlying t = some (.slice e)) {s : Nat} (hs : sizeAt P e = some s) (h0 : len * s = 0) (hp : parts.toList.length = 0) {v H'}
    (hr : ropRun (.buildSlice s len [] []) (evalA env) H = some (v,H')) : Sim P β H base w (execOp a.eval o) v H' := by
  simp [ropRun,fillA] at hr
  obtain ⟨rfl,rfl⟩ := hr
  have hpe : parts = #[] := by simpa using hp
  subst hpe
  refine sim_new (room := len) (cs := #[]) (t := e) hi (cv := .slice (some ⟨w.heap.size,0,none⟩) len len) (w' := { w with heap := w.heap.push (.cells #[] e) }) ?_ rfl rfl rfl rfl (by simp; omega) (fun i u hu => by simp at hu) ?_
  · simp [execOp,ho,Instr.buildSlice,run_underlying' ht,sizeOf_run hs,h0,Instr.fill,newRow,show Array.range 0 = #[] from rfl]
  · refine .slice (Nat.le_refl _) (fun _ => rfl) fun _ => ⟨_,Beta.ext_self,by simp,fun _ => Nat.le_refl _⟩
end
end Go.Lq

namespace Go.Lq
open Go
theorem zeroRow_len (z : List Value) (n : Nat) : (zeroRow z n).length = n := by simp [zeroRow]
theorem zeroRow_get (z : List Value) {n i : Nat} (h : i < n) : (zeroRow z n)[i]? = some (z.getD (i % z.length) default) := by
  simp [zeroRow,h]
section
variable {P : Program} {β : Beta} {H : AHeap} {base : Nat} {w : World} {env : Env} {a : Act}
theorem closedRow {z : List Value} (h : z.all constOk = true) (hz : 0 < z.length) (i : Nat) : VR β (z.getD (i % z.length) default) (z.getD (i % z.length) default) := by
  have hlt : i % z.length < z.length := Nat.mod_lt _ hz
  simp only [List.getD,List.getElem?_eq_getElem hlt,Option.getD_some]
  exact (constOk_closed (List.all_eq_true.1 h _ (List.getElem_mem hlt))).rel β
theorem sim_mkSlice (hi : Inj P β H base w) (he : EnvRel β env a.tmps) {t e : TypeId} {x y : Operand} {o : Oper} (ho : o.op = .makeSlice t x y)
    (hx : opdOk P x = true) (hy : opdOk P y = true) (ht : P.underlying t = some (.slice e)) {ti : TypeInfo} (hti : P.info? e = some ti) {z : Value} (hz : ti.zero = some z)
    (hs : ti.size ≠ 0) (hzs : z.cells.size = ti.size) {v H'}
    (hr : ropRun (.mkSlice ti.bytes z.cells.toList x y) (evalA env) H = some (v,H')) : Sim P β H base w (execOp a.eval o) v H' := by
  have e1 := eval_rel hi he hx
  have e2 := eval_rel hi he hy
  simp only [ropRun] at hr
  split at hr
  · rename_i m n h1 h2
    split at hr
    · rename_i hc
      obtain ⟨c1,c2,c3,c4,c5⟩ := hc
      simp only [Option.some.injEq,Prod.mk.injEq] at hr
      obtain ⟨rfl,rfl⟩ := hr
      rw [h1] at e1; rw [h2] at e2
      simp only [roomOk,Bool.and_eq_true,decide_eq_true_eq] at c3
      obtain ⟨c3,c3'⟩ := c3
      obtain ⟨m,rfl⟩ := Int.eq_ofNat_of_zero_le c1
      obtain ⟨n,rfl⟩ := Int.eq_ofNat_of_zero_le (Int.le_trans c1 c2)
      simp only [Int.toNat_natCast] at *
      have hb : (ti.bytes : Int) * n ≤ 281474976710656 := by
        have := Int.ofNat_le.2 c3
        rw [Int.natCast_mul,Int.mul_comm] at this
        omega
      have hmk := run_make (P := P) w t e ti z ht hti hz .i64 .i64 m n (by omega) (by omega) hb (by omega)
      simp only [Int.toNat_natCast] at hmk
      refine sim_new (room := n) (esz := z.cells.toList.length) (cs := madeCells z.cells (n * ti.size)) (t := e) hi
        (cv := .slice (some ⟨w.heap.size,0,none⟩) m n)
        (w' := w.alloc (.cells (madeCells z.cells (n * ti.size)) e)) ?_ rfl rfl rfl rfl ?_ (fun i u hu => ?_) ?_
      · simp [execOp,ho,e1.int_inv,e2.int_inv,hmk]
      · simp [hzs,madeCells]
      · have hlt : i < m * z.cells.toList.length := by have := (List.getElem?_eq_some_iff.1 hu).1; rwa [zeroRow_len] at this
        rw [zeroRow_get _ hlt] at hu
        cases hu
        have hzl : z.cells.toList.length = ti.size := by simp [hzs]
        have hlt' : i < n * ti.size := by
          rw [hzl] at hlt
          exact Nat.lt_of_lt_of_le hlt (Nat.mul_le_mul_right _ (by omega))
        refine ⟨z.cells.toList.getD (i % z.cells.toList.length) default,?_,closedRow c5 (by omega) i⟩
        have := congrArg (·[i]?) (zeroRow_eq z.cells (n * ti.size))
        rw [zeroRow_get _ hlt'] at this
        rw [Array.getElem?_toList] at this
        exact this
      · refine .slice (by omega) (fun h => ?_) fun _ => ⟨_,Beta.ext_self,by simp,fun _ => Nat.le_refl _⟩
        split at h
        · omega
        · split at h <;> omega
    · cases hr
  · simp at hr
theorem sim_slice (hi : Inj P β H base w) (he : EnvRel β env a.tmps) {t e : TypeId} {x : Operand} {lo hh mx : Option Operand} {o : Oper} (ho : o.op = .slice t x lo hh mx)
    (hx : opdOk P x = true) (hlo : ∀ y ∈ lo,opdOk P y = true) (hhi : ∀ y ∈ hh,opdOk P y = true) (hmx : ∀ y ∈ mx,opdOk P y = true)
    (ht : P.underlying t = some (.slice e)) {n : Nat} (hn : sizeAt P e = some n) {v H'}
    (hr : ropRun (.slice n x lo hh mx) (evalA env) H = some (v,H')) : Sim P β H base w (execOp a.eval o) v H' := by
  have e1 := eval_rel hi he hx
  simp only [ropRun] at hr
  split at hr
  · rename_i id off len c h1
    simp only [Option.map_eq_some_iff,Prod.mk.injEq] at hr
    obtain ⟨u,hu,rfl,rfl⟩ := hr
    rw [h1] at e1
    obtain ⟨ad,cap,e,hcap,h0,hex⟩ := e1.slice_inv
    unfold sliceA at hu
    cases hl : loA (lo.map (evalA env)) with
    | none => rw [hl] at hu; cases hu
    | some l =>
    cases hh' : hiA len (hh.map (evalA env)) with
    | none => rw [hl,hh'] at hu; cases hu
    | some h =>
    rw [hl,hh'] at hu
    dsimp only at hu
    have hlv : (lo = none ∧ l = 0) ∨ ∃ y k,lo = some y ∧ a.eval y = .int k l := by
      cases lo with
      | none => simp [loA] at hl; exact .inl ⟨rfl,hl.symm⟩
      | some y =>
        have e2 := eval_rel hi he (hlo y (by simp))
        simp only [Option.map_some] at hl
        revert hl e2
        generalize evalA env y = u1
        intro hl e2
        cases u1 with
        | int k q => simp [loA] at hl; subst hl; exact .inr ⟨y,k,rfl,e2.int_inv⟩
        | _ => simp [loA] at hl
    have hhv : (hh = none ∧ h = len) ∨ ∃ y k,hh = some y ∧ a.eval y = .int k h := by
      cases hh with
      | none => simp [hiA] at hh'; exact .inl ⟨rfl,hh'.symm⟩
      | some y =>
        have e2 := eval_rel hi he (hhi y (by simp))
        simp only [Option.map_some] at hh'
        revert hh' e2
        generalize evalA env y = u1
        intro hh' e2
        cases u1 with
        | int k q => simp [hiA] at hh'; subst hh'; exact .inr ⟨y,k,rfl,e2.int_inv⟩
        | _ => simp [hiA] at hh'
    cases mx with
    | none =>
      dsimp only [Option.map_none] at hu
      split at hu
      · rename_i hc
        obtain ⟨c1,c2,c3⟩ := hc
        simp only [Option.some.injEq] at hu
        subst hu
        have hb : (Instr.sliceBounds true len cap (lo.map a.eval) (hh.map a.eval) none).run P w = .ok (l.toNat,h.toNat,cap) w := by
          have g1 : 0 ≤ h := by omega
          have g2 : h ≤ (cap : Int) := by omega
          have g3 : l ≤ (h.toNat : Int) := by omega
          rcases hhv with ⟨rfl,rfl⟩ | ⟨y,k,rfl,hy⟩ <;> rcases hlv with ⟨rfl,rfl⟩ | ⟨y',k',rfl,hy'⟩
          · simp [Instr.sliceBounds]
          · simp [Instr.sliceBounds,Instr.sliceBound,hy',asIntOf,c1,c2]
          · simp [Instr.sliceBounds,Instr.sliceBound,hy,asIntOf,g1,g2]
          · simp [Instr.sliceBounds,Instr.sliceBound,hy,hy',asIntOf,g1,g2,c1,show l ≤ max h 0 by omega]
        refine .same (cv := .slice (some (if cap = l.toNat then ad else ad.add (l.toNat * n))) (h - l).toNat (cap - l.toNat)) hi ?_ ?_
        · have hsub : h.toNat - l.toNat = (h - l).toNat := by omega
          simp [execOp,ho,e,Instr.sliceAt,run_underlying' ht,Instr.slice,hb,sizeOf_run hn,hsub]
          split <;> rfl
        · refine .slice (by omega) (fun hz => ?_) (fun hz => ?_)
          · split at hz <;> omega
          · have hlt : l < h := by
              rcases hz with hz | hz
              · omega
              · split at hz <;> omega
            obtain ⟨p,hp,rfl,hroom⟩ := hex (.inl (by omega))
            refine ⟨p,hp,?_,fun hz => ?_⟩
            · rw [if_neg (by omega),add_off,Nat.add_assoc]
            · have := hroom (show off = 0 by omega)
              omega
      · cases hu
    | some y =>
      have e2 := eval_rel hi he (hmx y (by simp))
      simp only [Option.map_some] at hu
      revert hu e2
      generalize evalA env y = u1
      intro hu e2
      cases u1 with
      | int k m =>
        dsimp only at hu
        split at hu
        · rename_i hc
          obtain ⟨c0,c1,c2,c3,c4⟩ := hc
          simp only [Option.some.injEq] at hu
          subst hu
          have hb : (Instr.sliceBounds true len cap (lo.map a.eval) (hh.map a.eval) (some (a.eval y))).run P w = .ok (l.toNat,h.toNat,m.toNat) w := by
            have g1 : 0 ≤ h := by omega
            have g2 : h ≤ max m 0 := by omega
            have g3 : l ≤ max h 0 := by omega
            have g4 : 0 ≤ m := by omega
            have g5 : m ≤ (cap : Int) := by omega
            rcases hhv with ⟨rfl,rfl⟩ | ⟨y1,k1,rfl,hy1⟩
            · simp at c0
            · rcases hlv with ⟨rfl,rfl⟩ | ⟨y',k',rfl,hy'⟩
              · simp [Instr.sliceBounds,Instr.sliceBound,e2.int_inv,hy1,asIntOf,g1,g2,g4,g5]
              · simp [Instr.sliceBounds,Instr.sliceBound,e2.int_inv,hy1,hy',asIntOf,g1,g2,g3,g4,g5,c1]
          refine .same (cv := .slice (some (if m.toNat = l.toNat then ad else ad.add (l.toNat * n))) (h - l).toNat (m - l).toNat) hi ?_ ?_
          · have hsub : h.toNat - l.toNat = (h - l).toNat := by omega
            have hsub2 : m.toNat - l.toNat = (m - l).toNat := by omega
            simp [execOp,ho,e,Instr.sliceAt,run_underlying' ht,Instr.slice,hb,sizeOf_run hn,hsub,hsub2]
            split <;> rfl
          · refine .slice (by omega) (fun hz => by split at hz <;> omega) (fun hz => ?_)
            have hlt : l < m := by
              rcases hz with hz | hz
              · omega
              · split at hz <;> omega
            obtain ⟨p,hp,rfl,hroom⟩ := hex (.inl (by omega))
            refine ⟨p,hp,?_,fun hz => ?_⟩
            · rw [if_neg (by omega),add_off,Nat.add_assoc]
            · have := hroom (show off = 0 by omega)
              omega
        · cases hu
      | _ => simp at hu
  · rename_i h1
    simp only [Option.map_eq_some_iff,Prod.mk.injEq] at hr
    obtain ⟨u,hu,rfl,rfl⟩ := hr
    rw [h1] at e1
    obtain ⟨e,_,_⟩ := e1.sliceNil_inv
    unfold sliceA at hu
    cases hl : loA (lo.map (evalA env)) with
    | none => rw [hl] at hu; cases hu
    | some l =>
    cases hh' : hiA 0 (hh.map (evalA env)) with
    | none => rw [hl,hh'] at hu; cases hu
    | some h =>
    rw [hl,hh'] at hu
    dsimp only at hu
    have hlv : (lo = none ∧ l = 0) ∨ ∃ y k,lo = some y ∧ a.eval y = .int k l := by
      cases lo with
      | none => simp [loA] at hl; exact .inl ⟨rfl,hl.symm⟩
      | some y =>
        have e2 := eval_rel hi he (hlo y (by simp))
        simp only [Option.map_some] at hl
        revert hl e2
        generalize evalA env y = u1
        intro hl e2
        cases u1 with
        | int k q => simp [loA] at hl; subst hl; exact .inr ⟨y,k,rfl,e2.int_inv⟩
        | _ => simp [loA] at hl
    have hhv : (hh = none ∧ h = 0) ∨ ∃ y k,hh = some y ∧ a.eval y = .int k h := by
      cases hh with
      | none => simp [hiA] at hh'; exact .inl ⟨rfl,hh'.symm⟩
      | some y =>
        have e2 := eval_rel hi he (hhi y (by simp))
        simp only [Option.map_some] at hh'
        revert hh' e2
        generalize evalA env y = u1
        intro hh' e2
        cases u1 with
        | int k q => simp [hiA] at hh'; subst hh'; exact .inr ⟨y,k,rfl,e2.int_inv⟩
        | _ => simp [hiA] at hh'
    cases mx with
    | none =>
      dsimp only [Option.map_none] at hu
      split at hu
      · rename_i hc
        obtain ⟨c1,c2,c3⟩ := hc
        have hh0 : h = 0 := by simp at c3; omega
        have hl0 : l = 0 := by omega
        subst hh0; subst hl0
        have hb : (Instr.sliceBounds true 0 0 (lo.map a.eval) (hh.map a.eval) none).run P w = .ok (0,0,0) w := by
          rcases hhv with ⟨rfl,_⟩ | ⟨y,k,rfl,hy⟩ <;> rcases hlv with ⟨rfl,_⟩ | ⟨y',k',rfl,hy'⟩
          · simp [Instr.sliceBounds]
          · simp [Instr.sliceBounds,Instr.sliceBound,hy',asIntOf]
          · simp [Instr.sliceBounds,Instr.sliceBound,hy,asIntOf]
          · simp [Instr.sliceBounds,Instr.sliceBound,hy,hy',asIntOf]
        refine .same (cv := .slice none 0 0) hi ?_ .sliceNil
        simp [execOp,ho,e,Instr.sliceAt,run_underlying' ht,Instr.slice,hb,sizeOf_run hn]
      · cases hu
    | some y =>
      have e2 := eval_rel hi he (hmx y (by simp))
      simp only [Option.map_some] at hu
      revert hu e2
      generalize evalA env y = u1
      intro hu e2
      cases u1 with
      | int k m =>
        dsimp only at hu
        split at hu
        · rename_i hc
          obtain ⟨c0,c1,c2,c3,c4⟩ := hc
          have hm0 : m = 0 := by simp at c4; omega
          have hh0 : h = 0 := by omega
          have hl0 : l = 0 := by omega
          subst hm0; subst hh0; subst hl0
          have hb : (Instr.sliceBounds true 0 0 (lo.map a.eval) (hh.map a.eval) (some (a.eval y))).run P w = .ok (0,0,0) w := by
            rcases hhv with ⟨rfl,_⟩ | ⟨y1,k1,rfl,hy1⟩
            · simp at c0
            · rcases hlv with ⟨rfl,_⟩ | ⟨y',k',rfl,hy'⟩
              · simp [Instr.sliceBounds,Instr.sliceBound,e2.int_inv,hy1,asIntOf]
              · simp [Instr.sliceBounds,Instr.sliceBound,e2.int_inv,hy1,hy',asIntOf]
          refine .same (cv := .slice none 0 0) hi ?_ .sliceNil
          simp [execOp,ho,e,Instr.sliceAt,run_underlying' ht,Instr.slice,hb,sizeOf_run hn]
        · cases hu
      | _ => simp at hu
  · simp at hr
end
end Go.Lq

namespace Go.Lq
open Go
section
variable {P : Program} {β : Beta} {H : AHeap} {base : Nat} {w : World} {env : Env} {a : Act}
theorem append_types {t u ty e e' : TypeId} (ht : P.underlying t = some (.slice e)) (hu : P.underlying u = some (.slice e')) (s : Option Addr) (n c : Nat) (x : Option Addr) (m d : Nat) (w : World) :
    (Builtin.append_ #[t,u] ty #[.slice s n c,.slice x m d]).run P w = (Builtin.append_ #[t,t] ty #[.slice s n c,.slice x m d]).run P w := by
  simp [Builtin.append_,run_underlying' ht,run_underlying' hu]
theorem run_append_none {t ty e : TypeId} {i : TypeInfo} (ht : P.underlying t = some (.slice e)) (hi : P.info? e = some i) (s : Option Addr) (n c : Nat) (x : Option Addr) (c' : Nat) (hc : n ≤ c) (w : World) :
    (Builtin.append_ #[t,t] ty #[.slice s n c,.slice x 0 c']).run P w = .ok (.slice s n c) w := by
  cases s <;> cases x <;> simp [Builtin.append_,run_underlying' ht,sizeOf,typeInfo,hi,Builtin.lenOf,Builtin.firstCells,loadCells,loadCellsFrom,storeCells,hc]
theorem grown_push (w : World) (ob : Obj) : (w.drew.alloc ob).heap = w.heap.push ob := rfl
theorem sim_grow (hi : Inj P β H base w) {s : Sem Next} {e : TypeId} {i : TypeInfo} {olds news : List Value} {vs : List Value} {zc : Array Value} {need cap : Nat} (hneed : need ≤ cap) (hpos : 0 < need)
    (hl : olds.length + news.length = need * i.size) (hz : i.size = 0 ∨ zc.size = i.size)
    (hs : s.run P w = .ok (.value (.slice (some ⟨w.heap.size,0,none⟩) need cap)) (w.drew.alloc (.cells (olds.toArray ++ news.toArray ++ Builtin.zeroCells zc (cap - need)) e)))
    (hv : VRs β vs (olds ++ news)) : Sim P β H base w s (.slice (some ⟨H.length,0,none⟩) need need) (H ++ [.cells true i.size vs]) := by
  refine sim_new (room := cap) hi hs (grown_push _ _) rfl rfl rfl ?_ (fun j u hu => ?_) ?_
  · rcases hz with hz | hz
    · simp [hz]
    · simp only [Array.size_append,List.size_toArray,size_zeroCells,hz,hl]
      rw [← Nat.add_mul]
      exact Nat.mul_le_mul_right _ (by omega)
  · have hlt : j < (olds ++ news).length := by have := (List.getElem?_eq_some_iff.1 hu).1; have := hv.1; omega
    refine ⟨(olds ++ news)[j],?_,hv.2 j u _ hu (by simp)⟩
    rw [← Array.getElem?_toList]
    simp only [Array.toList_append]
    rw [List.getElem?_append_left hlt]
    simp
  · refine .slice hneed (fun h => ?_) fun _ => ⟨_,Beta.ext_self,by simp,fun _ => Nat.le_refl _⟩
    omega
theorem sim_grow0 (hi : Inj P β H base w) {s : Sem Next} {e : TypeId} {i : TypeInfo} {news : List Value} {vs : List Value} {zc : Array Value} {need cap : Nat} (hneed : need ≤ cap) (hpos : 0 < need)
    (hl : news.length = need * i.size) (hz : i.size = 0 ∨ zc.size = i.size)
    (hs : s.run P w = .ok (.value (.slice (some ⟨w.heap.size,0,none⟩) need cap)) (w.drew.alloc (.cells (news.toArray ++ Builtin.zeroCells zc (cap - need)) e)))
    (hv : VRs β vs news) : Sim P β H base w s (.slice (some ⟨H.length,0,none⟩) need need) (H ++ [.cells true i.size vs]) :=
  sim_grow (olds := []) hi hneed hpos (by simpa using hl) hz (by rw [show (([] : List Value).toArray ++ news.toArray) = news.toArray from by simp]; exact hs) (by simpa using hv)
theorem VRs.append {xs ys cxs cys : List Value} (h : VRs β xs cxs) (h' : VRs β ys cys) : VRs β (xs ++ ys) (cxs ++ cys) := by
  have e1 := h.1
  refine ⟨by simp [h.1,h'.1],fun i v v' a b => ?_⟩
  by_cases hlt : i < xs.length
  · rw [List.getElem?_append_left hlt] at a
    rw [List.getElem?_append_left (by omega)] at b
    exact h.2 i v v' a b
  · rw [List.getElem?_append_right (by omega)] at a
    rw [List.getElem?_append_right (by omega),← e1] at b
    exact h'.2 _ v v' a b
theorem sim_append (hi : Inj P β H base w) (he : EnvRel β env a.tmps) {t u e e' : TypeId} {x y : Operand} {o : Oper} (ho : o.op = .call { callee := .builtin .append,args := #[x,y],argTypes := #[t,u] })
    (hx : opdOk P x = true) (hy : opdOk P y = true) (ht : P.underlying t = some (.slice e)) (hu : P.underlying u = some (.slice e')) {ti : TypeInfo} (hti : P.info? e = some ti)
    {z : Value} (hz : ti.zero = some z) (hzs : ti.size = 0 ∨ z.cells.size = ti.size) {v H'}
    (hr : ropRun (.append ti.size ti.bytes x y) (evalA env) H = some (v,H')) : Sim P β H base w (execOp a.eval o) v H' := by
  have e1 := eval_rel hi he hx
  have e2 := eval_rel hi he hy
  simp only [ropRun] at hr
  have hexec : ∀ (s : Option Addr) (n c : Nat) (q : Option Addr) (m d : Nat) cv w',a.eval x = .slice s n c → a.eval y = .slice q m d → (Builtin.append_ #[t,t] o.type #[.slice s n c,.slice q m d]).run P w = .ok cv w' → (execOp a.eval o).run P w = .ok (.value cv) w' := by
    intro s n c q m d cv w' h1 h2 h3
    rw [← append_types ht hu] at h3
    simp [execOp,ho,resolve,invoke,builtin,h1,h2,h3]
  revert hr e1 e2
  generalize evalA env x = u1
  generalize evalA env y = u2
  intro hr e1 e2
  unfold appendA at hr
  split at hr
  · simp only [Option.some.injEq,Prod.mk.injEq] at hr
    obtain ⟨rfl,rfl⟩ := hr
    obtain ⟨c1,_⟩ := e1.sliceNil_inv
    obtain ⟨c2,_⟩ := e2.sliceNil_inv
    exact .same hi (hexec _ _ _ _ _ _ _ _ c1 c2 (run_append_none ht hti _ _ _ _ _ (Nat.le_refl _) w)) .sliceNil
  · simp only [Option.some.injEq,Prod.mk.injEq] at hr
    obtain ⟨rfl,rfl⟩ := hr
    obtain ⟨c1,_⟩ := e1.sliceNil_inv
    obtain ⟨_,_,c2,_⟩ := e2.slice_inv
    exact .same hi (hexec _ _ _ _ _ _ _ _ c1 c2 (run_append_none ht hti _ _ _ _ _ (Nat.le_refl _) w)) .sliceNil
  · simp only [Option.some.injEq,Prod.mk.injEq] at hr
    obtain ⟨rfl,rfl⟩ := hr
    obtain ⟨_,_,c1,hc,_⟩ := e1.slice_inv
    obtain ⟨c2,_⟩ := e2.sliceNil_inv
    rw [c1] at e1
    exact .same hi (hexec _ _ _ _ _ _ _ _ c1 c2 (run_append_none ht hti _ _ _ _ _ hc w)) e1
  · simp only [Option.some.injEq,Prod.mk.injEq] at hr
    obtain ⟨rfl,rfl⟩ := hr
    obtain ⟨_,_,c1,hc,_⟩ := e1.slice_inv
    obtain ⟨_,_,c2,_⟩ := e2.slice_inv
    rw [c1] at e1
    exact .same hi (hexec _ _ _ _ _ _ _ _ c1 c2 (run_append_none ht hti _ _ _ _ _ hc w)) e1
  · rename_i jd joff n c hn0
    split at hr
    · rename_i new hnew
      split at hr
      · rename_i hc
        simp only [Option.some.injEq,Prod.mk.injEq] at hr
        obtain ⟨rfl,rfl⟩ := hr
        obtain ⟨c1,_⟩ := e1.sliceNil_inv
        obtain ⟨ad,cap,c2,hcap,h0,hex⟩ := e2.slice_inv
        have hpos : 0 < n := Nat.pos_of_ne_zero hn0
        obtain ⟨p,hp,rfl,_⟩ := hex (.inl hpos)
        obtain ⟨cvs,hl1,hl2,hv,hcell⟩ := cells_rel hi hp hnew
        have hroom := hc.2
        simp only [roomOk,Bool.and_eq_true,decide_eq_true_eq] at hroom
        have hrun := run_append_nil (P := P) w t o.type e ti z ht hti hz ⟨p.b,p.o + joff,none⟩ n cap cvs hl2 hcell hpos (by omega) (by omega)
        have := sim_grow0 (s := execOp a.eval o) (i := ti) (zc := z.cells) hi (grownCap_ge w n 0 e) hpos hl2 hzs (hexec _ _ _ _ _ _ _ _ c1 c2 hrun) hv
        exact this
      · cases hr
    · cases hr
  · rename_i id off len c jd joff n c' hn0
    split at hr
    · rename_i new hnew
      split at hr
      · rename_i hc
        have hroom := hc.2
        simp only [roomOk,Bool.and_eq_true,decide_eq_true_eq] at hroom
        obtain ⟨ad,cap,c1,hcap,h0,hex⟩ := e1.slice_inv
        obtain ⟨ad2,cap2,c2,hcap2,h02,hex2⟩ := e2.slice_inv
        have hpos : 0 < n := Nat.pos_of_ne_zero hn0
        obtain ⟨q,hq,rfl,_⟩ := hex2 (.inl hpos)
        obtain ⟨cvs,hl1,hl2,hv,hcell⟩ := cells_rel hi hq hnew
        split at hr
        · rename_i hzz
          obtain ⟨rfl,rfl⟩ := hzz
          simp only [Option.some.injEq,Prod.mk.injEq] at hr
          obtain ⟨rfl,rfl⟩ := hr
          have hcz := h0 rfl
          subst hcz
          have hrun := run_append_grow (P := P) w t o.type e ti z ht hti hz ad 0 0 [] (by simp) (fun j v h => by simp at h) ⟨q.b,q.o + joff,none⟩ n cap2 cvs hl2 hcell (by omega) (by omega) (growslice_fits (by omega) (by omega))
          simp only [Nat.zero_add] at hrun
          rw [show (([] : List Value).toArray ++ cvs.toArray) = cvs.toArray from by simp] at hrun
          have := sim_grow0 (s := execOp a.eval o) (i := ti) (zc := z.cells) hi (grownCap_ge w n 0 e) hpos hl2 hzs (hexec _ _ _ _ _ _ _ _ c1 c2 hrun) hv
          exact this
        · split at hr
          · rename_i esz vs hH
            split at hr
            · rename_i hcc
              obtain ⟨rfl,rfl,hlen,hex0⟩ := hcc
              simp only [Option.some.injEq,Prod.mk.injEq] at hr
              obtain ⟨rfl,rfl⟩ := hr
              obtain ⟨p,hp,rfl,hcr⟩ := hex hex0
              have hcr := hcr rfl
              have hr0 := hi.obj _ _ hp
              rw [show H[(⟨id,0,none⟩ : Addr).block]? = H[id]? from rfl,hH] at hr0
              obtain ⟨cs,tt,fz,hb,hcs,hown⟩ := hr0
              obtain ⟨hpo,rfl,hbase,hrm⟩ := hown rfl
              have hall : cellsAt H id 0 (len * ti.size) = some vs := by
                unfold cellsAt; rw [hH]; simp only [Nat.zero_add,List.drop_zero]; rw [if_pos (by omega),List.take_of_length_le (by omega)]
              obtain ⟨ovs,hol1,hol2,hov,hocell⟩ := cells_rel hi hp hall
              by_cases hfit : len + n ≤ cap
              · -- in place
                have hcsz : len * ti.size + cvs.length ≤ cs.size := by
                  rw [hl2,← Nat.add_mul]
                  exact Nat.le_trans (Nat.mul_le_mul_right _ (by omega)) hrm
                have hst := run_storeCells_at P p.b (len * ti.size) tt cvs 0 cs w hb (by simpa using hcsz) (atoms_one hv hc.1)
                simp only [Nat.add_zero] at hst
                have hf := run_firstCells_some (P := P) w ti.size n ⟨q.b,q.o + joff,none⟩ n cap2 cvs hl2 hcell
                have hrun : (Builtin.append_ #[t,t] o.type #[.slice (some ⟨p.b,p.o + 0,none⟩) len cap,.slice (some ⟨q.b,q.o + joff,none⟩) n cap2]).run P w =
                    .ok (.slice (some ⟨p.b,p.o + 0,none⟩) (len + n) cap) (w.setRow p.b (cs.toList.take (len * ti.size) ++ cvs ++ cs.toList.drop (len * ti.size + cvs.length)).toArray) := by
                  simp [Builtin.append_,run_underlying' ht,sizeOf,typeInfo,hti,Builtin.lenOf,hfit,hf,hpo]
                  rw [show (⟨p.b,0,none⟩ : Addr).add (len * ti.size) = ⟨p.b,len * ti.size,none⟩ from by rw [add_off]; simp]
                  simp [hst]
                have hold : ∀ j,j ≠ p.b → (w.setRow p.b (cs.toList.take (len * ti.size) ++ cvs ++ cs.toList.drop (len * ti.size + cvs.length)).toArray).heap[j]? = w.heap[j]? := fun j hj => setRow_other w p.b j _ hj
                have hsz : (w.setRow p.b (cs.toList.take (len * ti.size) ++ cvs ++ cs.toList.drop (len * ti.size + cvs.length)).toArray).heap.size = w.heap.size := by simp [World.setRow]
                refine ⟨_,_,β.ext H.length p,.inl (hexec _ _ _ _ _ _ _ _ c1 c2 hrun),?_,hi.move hp hH hold hsz ⟨_,tt,setRow_heap w p.b cs _ tt _ hb,?_,fun j v hj => ?_⟩,Post.move hi hp hH hold hsz rfl rfl rfl⟩
                · exact .slice (by omega) (fun h => by omega) fun _ => ⟨p,Beta.ext_self,rfl,fun _ => hcr⟩
                · simp; omega
                · have e3 := setCells_get (xs := cs.toList) (k := len * ti.size) (vs := cvs) (by simpa using hcsz) j
                  simp only [setCells] at e3
                  rw [List.getElem?_toArray,e3]
                  by_cases h1 : j < vs.length
                  · rw [List.getElem?_append_left h1] at hj
                    obtain ⟨cv,hcv,hvv⟩ := hcs j v hj
                    rw [hpo,Nat.zero_add] at hcv
                    exact ⟨cv,by simp [show j < len * ti.size by omega,hcv],hvv⟩
                  · rw [List.getElem?_append_right (by omega)] at hj
                    have hlt : j - vs.length < cvs.length := by have := (List.getElem?_eq_some_iff.1 hj).1; have := hv.1; omega
                    refine ⟨cvs[j - vs.length],?_,hv.2 _ v _ hj (by simp [hlt])⟩
                    rw [if_neg (by omega),if_pos (by omega)]
                    rw [show j - len * ti.size = j - vs.length by omega]
                    simp [hlt]
              · -- a new array
                have hrun := run_append_grow (P := P) w t o.type e ti z ht hti hz ⟨p.b,p.o + 0,none⟩ len cap ovs hol2 hocell ⟨q.b,q.o + joff,none⟩ n cap2 cvs hl2 hcell (by omega) (by omega) (growslice_fits (by omega) (by omega))
                obtain ⟨cv,w',β',hend,hvv,hinj,hpost⟩ := sim_grow (s := execOp a.eval o) (i := ti) (zc := z.cells) hi (grownCap_ge w (len + n) cap e) (by omega) (by rw [hol2,hl2,Nat.add_mul]) hzs (hexec _ _ _ _ _ _ _ _ c1 c2 hrun) (hov.append hv)
                have hlt := hi.dom _ _ hp
                have hk := hinj.kill id
                have hset : (H ++ [AObj.cells true ti.size (vs ++ new)]).set id .dead = H.set id .dead ++ [.cells true ti.size (vs ++ new)] := by
                  rw [List.set_append_left _ _ hlt]
                rw [hset] at hk
                refine ⟨cv,w',β',hend,hvv,hk,?_⟩
                have hpk := hpost.trans hi.dom (Post.kill hinj id)
                rwa [hset] at hpk
            · cases hr
          · cases hr
      · cases hr
    · cases hr
  · cases hr
theorem sim_appendF (hi : Inj P β H base w) (he : EnvRel β env a.tmps) {t u e e' : TypeId} {x y : Operand} {o : Oper} (ho : o.op = .call { callee := .builtin .append,args := #[x,y],argTypes := #[t,u] })
    (hx : opdOk P x = true) (hy : opdOk P y = true) (ht : P.underlying t = some (.slice e)) (hu : P.underlying u = some (.slice e')) {ti : TypeInfo} (hti : P.info? e = some ti)
    {z : Value} (hz : ti.zero = some z) (hzs : ti.size = 0 ∨ z.cells.size = ti.size) {v H'}
    (hr : ropRun (.appendF ti.size ti.bytes x y) (evalA env) H = some (v,H')) : Sim P β H base w (execOp a.eval o) v H' := by
  simp only [ropRun,appendF] at hr
  split at hr
  · exact sim_append hi he ho hx hy ht hu hti hz hzs hr
  have e1 := eval_rel hi he hx
  have e2 := eval_rel hi he hy
  have hexec : ∀ (s : Option Addr) (n c : Nat) (q : Option Addr) (m d : Nat) cv w',a.eval x = .slice s n c → a.eval y = .slice q m d → (Builtin.append_ #[t,t] o.type #[.slice s n c,.slice q m d]).run P w = .ok cv w' → (execOp a.eval o).run P w = .ok (.value cv) w' := by
    intro s n c q m d cv w' h1 h2 h3
    rw [← append_types ht hu] at h3
    simp [execOp,ho,resolve,invoke,builtin,h1,h2,h3]
  revert hr e1 e2
  generalize evalA env x = u1
  generalize evalA env y = u2
  intro hr e1 e2
  split at hr
  · rename_i id off m jd joff n c'
    split at hr
    · rename_i old new hold hnew
      split at hr
      · rename_i hroom
        simp only [roomOk,Bool.and_eq_true,decide_eq_true_eq] at hroom
        simp only [Option.some.injEq,Prod.mk.injEq] at hr
        obtain ⟨rfl,rfl⟩ := hr
        obtain ⟨ad,cap,c1,hcap,h0,hex⟩ := e1.slice_inv
        obtain ⟨ad2,cap2,c2,hcap2,h02,hex2⟩ := e2.slice_inv
        have hcm := h0 rfl
        obtain ⟨p,hp,rfl,_⟩ := hex (.inl (by omega))
        obtain ⟨q,hq,rfl,_⟩ := hex2 (.inl (by omega))
        obtain ⟨ovs,hol1,hol2,hov,hocell⟩ := cells_rel hi hp hold
        obtain ⟨cvs,hl1,hl2,hv,hcell⟩ := cells_rel hi hq hnew
        have hrun := run_append_grow (P := P) w t o.type e ti z ht hti hz ⟨p.b,p.o + off,none⟩ (m + 1) cap ovs hol2 hocell ⟨q.b,q.o + joff,none⟩ (n + 1) cap2 cvs hl2 hcell (by omega) (by omega) (growslice_fits (by omega) (by omega))
        exact sim_grow (s := execOp a.eval o) (i := ti) (zc := z.cells) hi (grownCap_ge w (m + 1 + (n + 1)) cap e) (by omega) (by rw [hol2,hl2,← Nat.add_mul]) hzs (hexec _ _ _ _ _ _ _ _ c1 c2 hrun) (hov.append hv)
      · cases hr
    · cases hr
  · cases hr
end
end Go.Lq

namespace Go.Lq
open Go
section
variable {P : Program} {β : Beta} {H : AHeap} {base : Nat} {w : World} {env : Env} {a : Act}
theorem sim_copy (hi : Inj P β H base w) (he : EnvRel β env a.tmps) {t u e : TypeId} {x y : Operand} {o : Oper} (ho : o.op = .call { callee := .builtin .copy,args := #[x,y],argTypes := #[t,u] })
    (hx : opdOk P x = true) (hy : opdOk P y = true) (ht : P.underlying t = some (.slice e)) {n : Nat} (hn : sizeAt P e = some n) {v H'}
    (hr : ropRun (.copy n x y) (evalA env) H = some (v,H')) : Sim P β H base w (execOp a.eval o) v H' := by
  have e1 := eval_rel hi he hx
  have e2 := eval_rel hi he hy
  simp only [ropRun] at hr
  have hexec : ∀ c1 c2 cv w',a.eval x = c1 → a.eval y = c2 → (Builtin.copy_ #[t,u] o.type #[c1,c2]).run P w = .ok cv w' → (execOp a.eval o).run P w = .ok (.value cv) w' := by
    intro c1 c2 cv w' h1 h2 h3
    simp [execOp,ho,resolve,invoke,builtin,h1,h2,h3]
  have hzero : ∀ (s : Option Addr) (l c : Nat) (q : Option Addr) (m d : Nat),a.eval x = .slice s l c → a.eval y = .slice q m d → (l = 0 ∨ m = 0) → Sim P β H base w (execOp a.eval o) (.int .i64 0) H := by
    intro s l c q m d h1 h2 h0
    have hmin : Nat.min m l = 0 := by
      have : min m l = 0 := by omega
      exact this
    refine .same hi (hexec _ _ (.int .i64 0) w h1 h2 ?_) (.int _ _)
    cases s <;> cases q <;> simp [Builtin.copy_,run_underlying' ht,Builtin.lenOf,sizeOf_run hn,Builtin.firstCells,hmin,loadCells,loadCellsFrom,storeCells,goInt]
  revert hr e1 e2
  generalize evalA env x = u1
  generalize evalA env y = u2
  intro hr e1 e2
  unfold copyA at hr
  split at hr
  · rename_i id off m c jd joff k c'
    obtain ⟨ad,cap,c1,hcap,h0,hex⟩ := e1.slice_inv
    obtain ⟨ad2,cap2,c2,hcap2,h02,hex2⟩ := e2.slice_inv
    obtain ⟨p,hp,rfl,_⟩ := hex (.inl (by omega))
    obtain ⟨q,hq,rfl,_⟩ := hex2 (.inl (by omega))
    dsimp only at hr
    split at hr
    · rename_i new hnew
      simp only [Option.map_eq_some_iff,Prod.mk.injEq] at hr
      obtain ⟨H1,hs,rfl,rfl⟩ := hr
      obtain ⟨cvs,hl1,hl2,hv,hcell⟩ := cells_rel hi hq hnew
      obtain ⟨w',hw,hi',hpost⟩ := store_rel hi hp hs hv
      have hf := run_firstCells_some (P := P) w n (Nat.min (k + 1) (m + 1)) ⟨q.b,q.o + joff,none⟩ (k + 1) cap2 cvs hl2 hcell
      refine ⟨_,w',β,.inl (hexec _ _ (.int .i64 (Nat.min (k + 1) (m + 1))) w' c1 c2 ?_),.int _ _,hi',hpost⟩
      have hmin : Nat.min (k + 1) (m + 1) = min k m + 1 := by
        have : min (k + 1) (m + 1) = min k m + 1 := by omega
        exact this
      rw [hmin] at hf ⊢
      simp [Builtin.copy_,run_underlying' ht,Builtin.lenOf,sizeOf_run hn,hf,hw,goInt]
    · cases hr
  · simp only [Option.some.injEq,Prod.mk.injEq] at hr
    obtain ⟨rfl,rfl⟩ := hr
    obtain ⟨c2,h1,_⟩ := e2.sliceNil_inv
    rename_i s l c _
    cases s with
    | none =>
      obtain ⟨c1,_⟩ := e1.sliceNil_inv
      exact hzero _ _ _ _ _ _ c1 c2 (.inr rfl)
    | some s =>
      obtain ⟨_,_,c1,_⟩ := e1.slice_inv
      exact hzero _ _ _ _ _ _ c1 c2 (.inr rfl)
  · simp only [Option.some.injEq,Prod.mk.injEq] at hr
    obtain ⟨rfl,rfl⟩ := hr
    obtain ⟨c1,_⟩ := e1.sliceNil_inv
    obtain ⟨_,_,c2,_⟩ := e2.slice_inv
    exact hzero _ _ _ _ _ _ c1 c2 (.inl rfl)
  · simp only [Option.some.injEq,Prod.mk.injEq] at hr
    obtain ⟨rfl,rfl⟩ := hr
    obtain ⟨_,_,c1,_⟩ := e1.slice_inv
    obtain ⟨_,_,c2,_⟩ := e2.slice_inv
    exact hzero _ _ _ _ _ _ c1 c2 (.inl rfl)
  · simp only [Option.some.injEq,Prod.mk.injEq] at hr
    obtain ⟨rfl,rfl⟩ := hr
    obtain ⟨_,_,c1,_⟩ := e1.slice_inv
    obtain ⟨_,_,c2,_⟩ := e2.slice_inv
    exact hzero _ _ _ _ _ _ c1 c2 (.inr rfl)
  · cases hr
theorem sim_bor (hi : Inj P β H base w) (he : EnvRel β env a.tmps) {t yt : TypeId} {x y : Operand} {o : Oper} (ho : o.op = .binOp .or t x y yt) (hx : opdOk P x = true) (hy : opdOk P y = true) {v H'}
    (hr : ropRun (.bor x y) (evalA env) H = some (v,H')) : Sim P β H base w (execOp a.eval o) v H' := by
  simp only [ropRun] at hr
  split at hr
  · rename_i k m k' n h1 h2
    split at hr
    · rename_i hk
      subst hk
      have e1 := eval_rel hi he hx; rw [h1] at e1; have e1 := e1.int_inv
      have e2 := eval_rel hi he hy; rw [h2] at e2; have e2 := e2.int_inv
      simp only [Option.some.injEq,Prod.mk.injEq] at hr
      obtain ⟨rfl,rfl⟩ := hr
      have hg : eqGuard .or t x y (.int k m) (.int k n) = Pure.pure () := rfl
      exact .same hi (by simp [execOp,ho,e1,e2,hg,binOp,Op.intBits]) (.int _ _)
    · cases hr
  · cases hr
theorem sim_shl (hi : Inj P β H base w) (he : EnvRel β env a.tmps) {t yt : TypeId} {x y : Operand} {o : Oper} (ho : o.op = .binOp .shl t x y yt) (hx : opdOk P x = true) (hy : opdOk P y = true) {v H'}
    (hr : ropRun (.shl x y) (evalA env) H = some (v,H')) : Sim P β H base w (execOp a.eval o) v H' := by
  simp only [ropRun] at hr
  split at hr
  · rename_i k m k' n h1 h2
    split at hr
    · cases hr
    · rename_i hn
      have e1 := eval_rel hi he hx; rw [h1] at e1; have e1 := e1.int_inv
      have e2 := eval_rel hi he hy; rw [h2] at e2; have e2 := e2.int_inv
      simp only [Option.some.injEq,Prod.mk.injEq] at hr
      obtain ⟨rfl,rfl⟩ := hr
      have hg : eqGuard .shl t x y (.int k m) (.int k' n) = Pure.pure () := rfl
      exact .same hi (by simp [execOp,ho,e1,e2,hg,binOp,Op.shift,hn]) (.int _ _)
  · cases hr
theorem sim_strOp (hi : Inj P β H base w) (he : EnvRel β env a.tmps) {op : BinOp} {t yt : TypeId} {x y : Operand} {o : Oper} (ho : o.op = .binOp op t x y yt) (hx : opdOk P x = true) (hy : opdOk P y = true) {v H'}
    (hr : ropRun (.strOp op x y) (evalA env) H = some (v,H')) : Sim P β H base w (execOp a.eval o) v H' := by
  simp only [ropRun] at hr
  split at hr
  · rename_i m n h1 h2
    have e1 := eval_rel hi he hx; rw [h1] at e1; have e1 := e1.string_inv
    have e2 := eval_rel hi he hy; rw [h2] at e2; have e2 := e2.string_inv
    simp only [Option.map_eq_some_iff,Prod.mk.injEq] at hr
    obtain ⟨u,hu,rfl,rfl⟩ := hr
    have hg : eqGuard op t x y (.string m) (.string n) = Pure.pure () := by cases op <;> rfl
    unfold strA at hu
    split at hu
    · split at hu
      · rename_i hle
        cases hu
        refine .same hi ?_ (.string _)
        have hle' : ¬ ((m.size + n.size : Nat) : Int) > IntKind.i64.max := by
          have : IntKind.i64.max = 9223372036854775807 := by decide
          rw [this]; omega
        have hrun : (Op.stringOp .add m n).run P w = .ok (.string (m ++ n)) w := by
          simp only [Op.stringOp]
          rw [if_neg hle']; rfl
        simp [execOp,ho,e1,e2,hg,binOp,hrun]
      · cases hu
    all_goals (first | (cases hu; exact .same hi (by simp [execOp,ho,e1,e2,hg,binOp,Op.stringOp]) (.bool _)) | cases hu)
  · cases hr
theorem sim_idxS (hi : Inj P β H base w) (he : EnvRel β env a.tmps) {t : TypeId} {x y : Operand} {o : Oper} (ho : o.op = .index t x y) (hx : opdOk P x = true) (hy : opdOk P y = true) (ht : P.underlying t = some .string) {v H'}
    (hr : ropRun (.idxS x y) (evalA env) H = some (v,H')) : Sim P β H base w (execOp a.eval o) v H' := by
  simp only [ropRun] at hr
  split at hr
  · rename_i s k n h1 h2
    have e1 := eval_rel hi he hx; rw [h1] at e1; have e1 := e1.string_inv
    have e2 := eval_rel hi he hy; rw [h2] at e2; have e2 := e2.int_inv
    simp only [Option.map_eq_some_iff,Prod.mk.injEq] at hr
    obtain ⟨u,hu,rfl,rfl⟩ := hr
    unfold idxStr at hu
    split at hu
    · rename_i h0
      obtain ⟨b,hb,rfl⟩ := Option.map_eq_some_iff.1 hu
      exact .same hi (by simp [execOp,ho,e1,e2,Instr.index,asIntOf,run_underlying' ht,h0,hb]) (.int _ _)
    · cases hu
  · cases hr
theorem sim_arrS (hi : Inj P β H base w) (_ : EnvRel β env a.tmps) {x : Operand} {lo hh : Option Operand} {t e : TypeId} {n : Nat} {r : ROp} {o : Oper} (ho : o.op = .slice t x lo hh none)
    (hx : opdOk P x = true) (ht : P.underlying t = some (.array n e)) (hc : arrOp P n e x lo hh = some r) {v H'} (hr : ropRun r (evalA env) H = some (v,H')) : Sim P β H base w (execOp a.eval o) v H' := by
  unfold arrOp at hc
  split at hc
  · rename_i g
    split at hc
    · rename_i hn
      obtain ⟨n',hn',rfl⟩ := Option.map_eq_some_iff.1 hc
      have hg : g < P.globals.size := by simpa [opdOk] using hx
      obtain ⟨q,hq⟩ := hi.glob g hg
      simp only [ropRun,evalA,Option.some.injEq,Prod.mk.injEq] at hr
      obtain ⟨rfl,rfl⟩ := hr
      have hn0 : ¬ n = 0 := by omega
      refine .same (cv := .slice (some ⟨g,0,none⟩) n n) hi ?_ (.slice (Nat.le_refl _) (fun _ => rfl) fun _ => ⟨_,hq,rfl,fun _ => show n ≤ q + 64 by omega⟩)
      simp [execOp,ho,Act.eval,Instr.sliceAt,run_underlying' ht,Instr.sliceBounds,Instr.sureAddr,sizeOf_run hn',hn0]
      rfl
    · cases hc
  · cases hc
theorem sim_lenS (hi : Inj P β H base w) (he : EnvRel β env a.tmps) {x : Operand} {t : TypeId} {o : Oper} (ho : o.op = .call { callee := .builtin .len,args := #[x],argTypes := #[t] })
    (hx : opdOk P x = true) (ht : P.underlying t = some .string) {v H'} (hr : ropRun (.lenS x) (evalA env) H = some (v,H')) : Sim P β H base w (execOp a.eval o) v H' := by
  simp only [ropRun] at hr
  split at hr
  · rename_i s h1
    have e1 := eval_rel hi he hx; rw [h1] at e1; have e1 := e1.string_inv
    simp only [Option.some.injEq,Prod.mk.injEq] at hr
    obtain ⟨rfl,rfl⟩ := hr
    exact .same hi (by simp [execOp,ho,resolve,invoke,builtin,e1,Builtin.len_,run_underlying' ht,goInt]) (.int _ _)
  · cases hr
theorem bytes_push (w : World) (e : TypeId) (s : ByteArray) : (Lib.bytesWorld w e s).heap = w.heap.push (.cells (Lib.bytesCells w e s) e ((Lib.bytesCells w e s).size,(Lib.bytesCells w e s).size + 1)) := by
  refine Array.ext_getElem? fun i => ?_
  rcases Nat.lt_trichotomy i w.heap.size with h | h | h
  · rw [Lib.bytesWorld_at_old w e s i h,Array.getElem?_push,if_neg (by omega)]
  · subst h
    rw [Lib.bytesWorld_at_new]
    simp
  · rw [Array.getElem?_eq_none (by rw [Lib.bytesWorld_size]; omega),Array.getElem?_eq_none (by simp; omega)]
theorem sim_bytesS (hi : Inj P β H base w) (he : EnvRel β env a.tmps) {s t e : TypeId} {x : Operand} {o : Oper} (ho : o.op = .convert s t x) (hx : opdOk P x = true) (hs : P.underlying s = some .string) (ht : P.underlying t = some (.slice e))
    (hu : P.underlying e = some (.int .u8)) {v H'} (hr : ropRun (.bytesS x) (evalA env) H = some (v,H')) : Sim P β H base w (execOp a.eval o) v H' := by
  have e1 := eval_rel hi he hx
  simp only [ropRun] at hr
  split at hr
  · rename_i b h1
    rw [h1] at e1
    have e1 := e1.string_inv
    simp only [Option.some.injEq,Prod.mk.injEq] at hr
    obtain ⟨rfl,rfl⟩ := hr
    have hrun := Lib.run_convert_string_bytes (P := P) w s t e b hs ht hu
    refine ⟨.slice (some ⟨w.heap.size,0,none⟩) b.size (grownCap w b.size 0 e),Lib.bytesWorld w e b,β.ext H.length ⟨w.heap.size,0,grownCap w b.size 0 e⟩,.inl ?_,?_,hi.push _ _ _ (bytes_push w e b) ?_,Post.push hi _ _ _ (bytes_push w e b) rfl rfl rfl⟩
    · simp [execOp,ho,e1,hrun]
    · exact .slice (grownCap_ge w b.size 0 e) (fun h => by omega) fun _ => ⟨_,Beta.ext_self,by simp,fun _ => Nat.le_refl _⟩
    · refine ⟨_,e,_,by rw [bytes_push]; simp; exact ⟨rfl,rfl⟩,fun i u hu => ?_,fun h => by cases h⟩
      simp only [List.getElem?_map,Option.map_eq_some_iff] at hu
      obtain ⟨y,hy,rfl⟩ := hu
      have hlt : i < b.data.size := by have := (List.getElem?_eq_some_iff.1 hy).1; simpa using this
      refine ⟨.int .u8 (y.toNat : Int),?_,.int _ _⟩
      have hy' : b.data[i]? = some y := by simpa using hy
      have hs' : i < b.size := hlt
      simp [Lib.bytesCells,Array.getElem?_append,hlt,hy']
      intro h
      omega
  · cases hr
theorem sim_byteS (hi : Inj P β H base w) (he : EnvRel β env a.tmps) {s t e : TypeId} {x : Operand} {o : Oper} (ho : o.op = .convert s t x) (hx : opdOk P x = true) (hs : P.underlying s = some (.slice e)) (ht : P.underlying t = some .string)
    (hu : P.underlying e = some (.int .u8)) {v H'} (hr : ropRun (.byteS x) (evalA env) H = some (v,H')) : Sim P β H base w (execOp a.eval o) v H' := by
  have e1 := eval_rel hi he hx
  simp only [ropRun] at hr
  split at hr
  · rename_i id off n c h1
    simp only [Option.map_eq_some_iff,Prod.mk.injEq] at hr
    obtain ⟨u,hu1,rfl,rfl⟩ := hr
    split at hu1
    · rename_i hn
      subst hn
      obtain ⟨u1,hc1,hb⟩ := Option.bind_eq_some_iff.1 hu1
      rw [h1] at e1
      obtain ⟨ad,cap,e,_,_,ha⟩ := e1.slice_inv
      obtain ⟨p,hp,hpa,_⟩ := ha (.inl Nat.one_pos)
      obtain ⟨cv,hc,hv⟩ := cell_rel hi hp hc1
      unfold oneByte at hb
      split at hb
      · rename_i m
        simp only [Option.some.injEq] at hb
        subst hb
        have hcv := hv.int_inv
        subst hcv
        rw [← hpa] at hc
        have hl := run_loadCells_list (P := P) w ad [.int .u8 m] (fun i v hiv => by
          cases i with
          | zero => simp at hiv; subst hiv; rw [show ad.add 0 = ad by cases ad; simp [Addr.add]]; exact hc
          | succ i => simp at hiv)
        have hl : (loadCells ad 1).run P w = .ok #[.int .u8 m] w := hl
        refine .same (cv := .string (ByteArray.empty.push (UInt8.ofNat m.toNat))) hi ?_ (.string _)
        simp [execOp,ho,e,convert,run_underlying' hs,run_underlying' ht,run_underlying' hu,Conv.bytesToString,hl]
      · cases hb
    · cases hu1
  · cases hr
theorem sim_sliceS (hi : Inj P β H base w) (he : EnvRel β env a.tmps) {t : TypeId} {x : Operand} {lo hh : Option Operand} {o : Oper} (ho : o.op = .slice t x lo hh none)
    (hx : opdOk P x = true) (hlo : ∀ y ∈ lo,opdOk P y = true) (hhi : ∀ y ∈ hh,opdOk P y = true) (ht : P.underlying t = some .string) {v H'}
    (hr : ropRun (.sliceS x lo hh) (evalA env) H = some (v,H')) : Sim P β H base w (execOp a.eval o) v H' := by
  simp only [ropRun] at hr
  split at hr
  · rename_i s h1
    have e1 := eval_rel hi he hx; rw [h1] at e1; have e1 := e1.string_inv
    simp only [Option.map_eq_some_iff,Prod.mk.injEq] at hr
    obtain ⟨u,hu,rfl,rfl⟩ := hr
    unfold subS at hu
    cases hl : loA (lo.map (evalA env)) with
    | none => rw [hl] at hu; cases hu
    | some l =>
    cases hh' : hiA s.size (hh.map (evalA env)) with
    | none => rw [hl,hh'] at hu; cases hu
    | some h =>
    rw [hl,hh'] at hu
    dsimp only at hu
    have hlv : (lo = none ∧ l = 0) ∨ ∃ y k,lo = some y ∧ a.eval y = .int k l := by
      cases lo with
      | none => simp [loA] at hl; exact .inl ⟨rfl,hl.symm⟩
      | some y =>
        have e2 := eval_rel hi he (hlo y (by simp))
        simp only [Option.map_some] at hl
        revert hl e2
        generalize evalA env y = u1
        intro hl e2
        cases u1 with
        | int k q => simp [loA] at hl; subst hl; exact .inr ⟨y,k,rfl,e2.int_inv⟩
        | _ => simp [loA] at hl
    have hhv : (hh = none ∧ h = s.size) ∨ ∃ y k,hh = some y ∧ a.eval y = .int k h := by
      cases hh with
      | none => simp [hiA] at hh'; exact .inl ⟨rfl,hh'.symm⟩
      | some y =>
        have e2 := eval_rel hi he (hhi y (by simp))
        simp only [Option.map_some] at hh'
        revert hh' e2
        generalize evalA env y = u1
        intro hh' e2
        cases u1 with
        | int k q => simp [hiA] at hh'; subst hh'; exact .inr ⟨y,k,rfl,e2.int_inv⟩
        | _ => simp [hiA] at hh'
    split at hu
    · rename_i hc
      obtain ⟨c1,c2,c3⟩ := hc
      simp only [Option.some.injEq] at hu
      subst hu
      have hb : (Instr.sliceBounds false s.size s.size (lo.map a.eval) (hh.map a.eval) none).run P w = .ok (l.toNat,h.toNat,s.size) w := by
        have g1 : 0 ≤ h := by omega
        have g3 : l ≤ (h.toNat : Int) := by omega
        rcases hhv with ⟨rfl,rfl⟩ | ⟨y,k,rfl,hy⟩ <;> rcases hlv with ⟨rfl,rfl⟩ | ⟨y',k',rfl,hy'⟩
        · simp [Instr.sliceBounds]
        · simp [Instr.sliceBounds,Instr.sliceBound,hy',asIntOf,c1,c2]
        · simp [Instr.sliceBounds,Instr.sliceBound,hy,asIntOf,g1,c3]
        · simp [Instr.sliceBounds,Instr.sliceBound,hy,hy',asIntOf,g1,c3,c1,show l ≤ max h 0 by omega]
      refine .same hi ?_ (.string _)
      simp [execOp,ho,e1,Instr.sliceAt,run_underlying' ht,Instr.slice,hb]
    · cases hu
  · cases hr
theorem fail_none (env : Env) (H : AHeap) : ropRun (orFail none) (evalA env) H = none := by
  simp [orFail,ropRun,evalA]
theorem exec_flag {ρ : Operand → Value} {o : Oper} {args : Array Operand} {t u z : TypeId} (ho : o.op = .call ⟨.builtin .append,args,#[t,u,z]⟩) :
    execOp ρ o = execOp ρ { o with op := .call ⟨.builtin .append,args,#[t,u]⟩ } := by
  simp only [execOp,ho,resolve]
  rfl
theorem sim_builtin (hi : Inj P β H base w) (he : EnvRel β env a.tmps) {b : Builtin} {args : Array Operand} {ts : Array TypeId} {o : Oper} (ho : o.op = .call { callee := .builtin b,args := args,argTypes := ts })
    (hok : ∀ x ∈ args.toList,opdOk P x = true) {r : ROp} (hc : compileBuiltin P b ts.toList args.toList = some r) {v H'}
    (hr : ropRun r (evalA env) H = some (v,H')) : Sim P β H base w (execOp a.eval o) v H' := by
  obtain ⟨args⟩ := args
  obtain ⟨ts⟩ := ts
  dsimp only at hc hok
  unfold compileBuiltin at hc
  split at hc
  · split at hc
    · cases hc
      exact sim_len hi he ho (by assumption) (hok _ (by simp)) hr
    · cases hc
      exact sim_lenS hi he ho (hok _ (by simp)) (by assumption) hr
    · cases hc
  · rename_i t u s x
    split at hc
    · rename_i e e' h1 h2
      split at hc
      · rename_i ti hti
        split at hc
        · rename_i z hz
          split at hc
          · rename_i hzs
            cases hc
            exact sim_append hi he ho (hok _ (by simp)) (hok _ (by simp)) h1 h2 hti hz (.inr hzs) hr
          · cases hc
        · cases hc
      · cases hc
    · cases hc
  · rename_i t u tz s x
    split at hc
    · rename_i e e' h1 h2
      split at hc
      · rename_i ti hti
        split at hc
        · rename_i z hz
          split at hc
          · rename_i hzs
            cases hc
            rw [exec_flag ho]
            exact sim_appendF (o := { o with op := .call ⟨.builtin .append,#[s,x],#[t,u]⟩ }) hi he rfl (hok _ (by simp)) (hok _ (by simp)) h1 h2 hti hz (.inr hzs) hr
          · cases hc
        · cases hc
      · cases hc
    · cases hc
  · split at hc
    · rename_i e h1
      simp only [Option.map_eq_some_iff] at hc
      obtain ⟨n,hn,rfl⟩ := hc
      exact sim_copy hi he ho (hok _ (by simp)) (hok _ (by simp)) h1 hn hr
    · cases hc
  · cases hc
    exact sim_most (mx := false) hi he ho (fun y hy => hok y (by simpa using hy)) hr
  · cases hc
    exact sim_most (mx := true) hi he ho (fun y hy => hok y (by simpa using hy)) hr
  · cases hc
theorem sim_band (hi : Inj P β H base w) (he : EnvRel β env a.tmps) {t yt : TypeId} {x y : Operand} {o : Oper} (ho : o.op = .binOp .and t x y yt) (hx : opdOk P x = true) (hy : opdOk P y = true) {v H'}
    (hr : ropRun (.band x y) (evalA env) H = some (v,H')) : Sim P β H base w (execOp a.eval o) v H' := by
  simp only [ropRun] at hr
  split at hr
  · rename_i k m k' n h1 h2
    split at hr
    · rename_i hk
      subst hk
      have e1 := eval_rel hi he hx; rw [h1] at e1; have e1 := e1.int_inv
      have e2 := eval_rel hi he hy; rw [h2] at e2; have e2 := e2.int_inv
      simp only [Option.some.injEq,Prod.mk.injEq] at hr
      obtain ⟨rfl,rfl⟩ := hr
      have hg : eqGuard .and t x y (.int k m) (.int k n) = Pure.pure () := rfl
      exact .same hi (by simp [execOp,ho,e1,e2,hg,binOp,Op.intBits]) (.int _ _)
    · cases hr
  · cases hr
theorem sim_shr (hi : Inj P β H base w) (he : EnvRel β env a.tmps) {t yt : TypeId} {x y : Operand} {o : Oper} (ho : o.op = .binOp .shr t x y yt) (hx : opdOk P x = true) (hy : opdOk P y = true) {v H'}
    (hr : ropRun (.shr x y) (evalA env) H = some (v,H')) : Sim P β H base w (execOp a.eval o) v H' := by
  simp only [ropRun] at hr
  split at hr
  · rename_i k m k' n h1 h2
    split at hr
    · cases hr
    · rename_i hn
      have e1 := eval_rel hi he hx; rw [h1] at e1; have e1 := e1.int_inv
      have e2 := eval_rel hi he hy; rw [h2] at e2; have e2 := e2.int_inv
      simp only [Option.some.injEq,Prod.mk.injEq] at hr
      obtain ⟨rfl,rfl⟩ := hr
      have hg : eqGuard .shr t x y (.int k m) (.int k' n) = Pure.pure () := rfl
      exact .same hi (by simp [execOp,ho,e1,e2,hg,binOp,Op.shift,hn]) (.int _ _)
  · cases hr
theorem eqLeaves_rel {cs ds cs' ds' : Array Value} (h1 : cs.size = cs'.size) (h2 : ds.size = ds'.size) (r1 : ∀ (i : Nat) u u',cs[i]? = some u → cs'[i]? = some u' → VR β u u')
    (r2 : ∀ (i : Nat) u u',ds[i]? = some u → ds'[i]? = some u' → VR β u u') : ∀ (ls : List (Nat × Bool)) (b : Bool),eqLeaves cs ds ls = some b → eqLeaves cs' ds' ls = some b
  | [],b,h => h
  | (l,false) :: ls,b,h => by
    simp only [eqLeaves] at h
    split at h
    · rename_i k m k' n e1 e2
      obtain ⟨u1,f1⟩ := arr_some h1 e1
      obtain ⟨u2,f2⟩ := arr_some h2 e2
      have g1 := (r1 l _ _ e1 f1).int_inv
      have g2 := (r2 l _ _ e2 f2).int_inv
      subst g1; subst g2
      split at h
      · rename_i hk
        simp only [Option.map_eq_some_iff] at h
        obtain ⟨r,h3,h4⟩ := h
        simp only [eqLeaves,f1,f2,if_pos hk,eqLeaves_rel h1 h2 r1 r2 ls r h3,Option.map_some,h4]
      · cases h
    · cases h
  | (l,true) :: ls,b,h => by
    simp only [eqLeaves] at h
    split at h
    · rename_i m n e1 e2
      obtain ⟨u1,f1⟩ := arr_some h1 e1
      obtain ⟨u2,f2⟩ := arr_some h2 e2
      have g1 := (r1 l _ _ e1 f1).bool_inv
      have g2 := (r2 l _ _ e2 f2).bool_inv
      subst g1; subst g2
      simp only [Option.map_eq_some_iff] at h
      obtain ⟨r,h3,h4⟩ := h
      simp only [eqLeaves,f1,f2,eqLeaves_rel h1 h2 r1 r2 ls r h3,Option.map_some,h4]
    · cases h
theorem eqLeaves_append {cs ds : Array Value} : ∀ (xs ys : List (Nat × Bool)) (b : Bool),eqLeaves cs ds (xs ++ ys) = some b → ∃ p q,eqLeaves cs ds xs = some p ∧ eqLeaves cs ds ys = some q ∧ b = (p && q)
  | [],ys,b,h => ⟨true,b,rfl,h,rfl⟩
  | (l,false) :: xs,ys,b,h => by
    simp only [List.cons_append,eqLeaves] at h ⊢
    split at h
    · rename_i k m k' n e1 e2
      split at h
      · rename_i hk
        simp only [Option.map_eq_some_iff] at h
        obtain ⟨r,h3,rfl⟩ := h
        obtain ⟨p,q,h4,h5,rfl⟩ := eqLeaves_append xs ys r h3
        exact ⟨_,q,by rw [if_pos hk,h4]; rfl,h5,by rw [Bool.and_assoc]⟩
      · cases h
    · cases h
  | (l,true) :: xs,ys,b,h => by
    simp only [List.cons_append,eqLeaves] at h ⊢
    split at h
    · rename_i m n e1 e2
      simp only [Option.map_eq_some_iff] at h
      obtain ⟨r,h3,rfl⟩ := h
      obtain ⟨p,q,h4,h5,rfl⟩ := eqLeaves_append xs ys r h3
      exact ⟨_,q,by rw [h4]; rfl,h5,by rw [Bool.and_assoc]⟩
    · cases h
theorem eqLeaves_shift {cs ds : Array Value} {o n : Nat} : ∀ (ls : List (Nat × Bool)) (b : Bool),(∀ l ∈ ls,l.1 < n) → eqLeaves cs ds (ls.map fun l => (l.1 + o,l.2)) = some b →
    eqLeaves (cs.extract o (o + n)) (ds.extract o (o + n)) ls = some b
  | [],b,_,h => h
  | (l,c) :: ls,b,hl,h => by
    have hlt : l < n := hl (l,c) (by simp)
    have get : ∀ (xs : Array Value) (v : Value),xs[l + o]? = some v → (xs.extract o (o + n))[l]? = some v := fun xs v hv => by
      have := (Array.getElem?_eq_some_iff.1 hv).1
      rw [Array.getElem?_extract,if_pos (by omega),Nat.add_comm]
      exact hv
    cases c
    · simp only [List.map_cons,eqLeaves] at h ⊢
      split at h
      · rename_i k m k' m' e1 e2
        simp only [get _ _ e1,get _ _ e2]
        split at h
        · rename_i hk
          simp only [Option.map_eq_some_iff] at h
          obtain ⟨r,h3,h4⟩ := h
          rw [if_pos hk,eqLeaves_shift ls r (fun l hl' => hl l (by simp [hl'])) h3,Option.map_some,h4]
        · cases h
      · cases h
    · simp only [List.map_cons,eqLeaves] at h ⊢
      split at h
      · rename_i m m' e1 e2
        simp only [get _ _ e1,get _ _ e2]
        simp only [Option.map_eq_some_iff] at h
        obtain ⟨r,h3,h4⟩ := h
        rw [eqLeaves_shift ls r (fun l hl' => hl l (by simp [hl'])) h3,Option.map_some,h4]
      · cases h
theorem equal_run (w : World) : ∀ (d : Nat) (t : TypeId) (ls : List (Nat × Bool)),leavesT P d t = some ls → ∀ D,d ≤ D →
    ∀ fs,P.underlying t = some (.struct fs) → ∀ (xs ys : Array Value) b,eqLeaves xs ys ls = some b → (Op.equalIn D t (.agg xs) (.agg ys)).run P w = .ok b w
  | 0,t,ls,h,D,hD => by simp [leavesT] at h
  | d + 1,t,ls,h,D,hD => fun fs hfs xs ys b hb => by
    obtain ⟨D,rfl⟩ : ∃ E,D = E + 1 := ⟨D - 1,by omega⟩
    simp only [leavesT,hfs] at h
    split at h
    · cases h
    · rename_i hst
      have hst : P.stoodInHeld t = false := by simpa using hst
      have hff : P.fieldsOf t = fs := by simp [Program.fieldsOf,hfs]
      rw [run_equalIn_struct w D t xs ys (by rw [hff]; exact hfs) hst,hff]
      generalize fs.toList = l at h
      clear hfs hff
      induction l generalizing ls b with
      | nil => simp only [leavesFs,Option.some.injEq] at h; subst h; simp only [eqLeaves,Option.some.injEq] at hb; subst hb; simp [Op.eqFields]
      | cons f l ih =>
        simp only [leavesFs] at h
        split at h
        · cases h
        · rename_i hname
          split at h
          · rename_i ag n ls1 rest ha hn h1 h2
            split at h
            · rename_i hall
              simp only [Option.some.injEq] at h
              subst h
              obtain ⟨p,q,hp,hq,rfl⟩ := eqLeaves_append _ _ b hb
              have ihr := ih rest q hq h2
              have hone : ∃ ca cb,(part f.type xs f.offset).run P w = .ok ca w ∧ (part f.type ys f.offset).run P w = .ok cb w ∧ (Op.equalIn D f.type ca cb).run P w = .ok p w := by
                cases d with
                | zero => simp [leavesT] at h1
                | succ d =>
                  obtain ⟨D,rfl⟩ : ∃ E,D = E + 1 := ⟨D - 1,by omega⟩
                  cases hk : P.underlying f.type with
                  | none => simp [leavesT,hk] at h1
                  | some td =>
                    cases td with
                    | int k =>
                      have : ag = false := by simp [aggAt,hk] at ha; exact ha
                      subst this
                      simp only [leavesT,hk,Option.some.injEq] at h1
                      subst h1
                      simp only [List.map_cons,List.map_nil,Nat.zero_add,eqLeaves] at hp
                      split at hp
                      · rename_i k1 m k2 m' e1 e2
                        split at hp
                        · rename_i hkk
                          subst hkk
                          simp only [Option.map_some,Bool.and_true,Option.some.injEq] at hp
                          refine ⟨.int k1 m,.int k1 m',by simp [part,isAgg_run ha,e1],by simp [part,isAgg_run ha,e2],?_⟩
                          rw [← hp]
                          exact run_equalIn_int w D f.type k1 k m m' hk
                        · cases hp
                      · cases hp
                    | bool =>
                      have : ag = false := by simp [aggAt,hk] at ha; exact ha
                      subst this
                      simp only [leavesT,hk,Option.some.injEq] at h1
                      subst h1
                      simp only [List.map_cons,List.map_nil,Nat.zero_add,eqLeaves] at hp
                      split at hp
                      · rename_i m m' e1 e2
                        simp only [Option.map_some,Bool.and_true,Option.some.injEq] at hp
                        refine ⟨.bool m,.bool m',by simp [part,isAgg_run ha,e1],by simp [part,isAgg_run ha,e2],?_⟩
                        rw [← hp]
                        exact run_equalIn_bool w D f.type m m' hk
                      · cases hp
                    | struct fs' =>
                      have : ag = true := by simp [aggAt,hk] at ha; exact ha
                      subst this
                      have hsh := eqLeaves_shift ls1 p (fun l hl => by simpa using List.all_eq_true.1 hall l hl) hp
                      exact ⟨.agg (xs.extract f.offset (f.offset + n)),.agg (ys.extract f.offset (f.offset + n)),by simp [part,isAgg_run ha,sizeOf_run hn],by simp [part,isAgg_run ha,sizeOf_run hn],equal_run w (d + 1) f.type ls1 h1 (D + 1) (by omega) fs' hk _ _ p hsh⟩
                    | _ => simp [leavesT,hk] at h1
              obtain ⟨ca,cb,c1,c2,c3⟩ := hone
              simp only [Op.eqFields,ne_eq,hname,not_false_eq_true,if_true,Sem.run_bind,c1,c2,c3,Result.andThen_ok]
              cases p
              · simp
              · simp only [Bool.not_true,Bool.false_eq_true,if_false,Bool.true_and]; exact ihr
            · cases h
          · cases h
theorem sim_eqAgg (hi : Inj P β H base w) (he : EnvRel β env a.tmps) {neg : Bool} {t yt : TypeId} {x y : Operand} {o : Oper} (ho : o.op = .binOp (if neg then .neq else .eql) t x y yt) (hx : opdOk P x = true) (hy : opdOk P y = true)
    {fs : Array Field} (ht : P.underlying t = some (.struct fs)) {r : ROp} (hc : eqlAgg P neg t x y = some r) {v H'}
    (hr : ropRun r (evalA env) H = some (v,H')) : Sim P β H base w (execOp a.eval o) v H' := by
  unfold eqlAgg at hc
  split at hc
  · cases hc
  · rename_i hg
    have hg : P.eqGuardType P.depth t = false := by simpa using hg
    simp only [Option.map_eq_some_iff] at hc
    obtain ⟨ls,hls,rfl⟩ := hc
    replace hls : leavesT P 100 t = some ls := by unfold leavesA at hls; rw [ht] at hls; exact hls
    simp only [ropRun] at hr
    split at hr
    · rename_i cs ds h1 h2
      simp only [Option.map_eq_some_iff,Prod.mk.injEq] at hr
      obtain ⟨b,hb,rfl,rfl⟩ := hr
      have e1 := eval_rel hi he hx; rw [h1] at e1
      have e2 := eval_rel hi he hy; rw [h2] at e2
      obtain ⟨cs',f1,s1,r1⟩ := e1.agg_inv
      obtain ⟨ds',f2,s2,r2⟩ := e2.agg_inv
      have hb' := eqLeaves_rel s1 s2 r1 r2 ls b hb
      have hq := equal_run (P := P) w 100 t ls hls 10000 (by omega) fs ht cs' ds' b hb'
      have hgr := fun op => run_eqGuard_agg (P := P) w op t x y cs' ds' hg
      refine .same hi (cv := .bool (neg != b)) ?_ (.bool _)
      cases neg
      · simp only [Bool.false_eq_true,if_false] at ho
        simp [execOp,ho,f1,f2,Sem.run_bind,hgr,run_eql_struct,hq,Result.andThen]
      · simp only [if_true] at ho
        simp [execOp,ho,f1,f2,Sem.run_bind,hgr,run_neq_struct,hq,Result.andThen]
    · cases hr
theorem items_run (w : World) {e : TypeId} {k : IntKind} (he : P.underlying e = some (.int k)) (D : Nat) {xs ys : Array Value} : ∀ {is : List Nat} {b : Bool},eqLeaves xs ys (is.map fun i => (i,false)) = some b → (Op.eqItems (D + 1) e 1 xs ys is).run P w = .ok b w
  | [],b,h => by simp only [List.map_nil,eqLeaves,Option.some.injEq] at h; subst h; simp [Op.eqItems]
  | i :: is,b,h => by
    simp only [List.map_cons,eqLeaves] at h
    split at h
    · rename_i k1 m k2 m' e1 e2
      split at h
      · rename_i hkk
        subst hkk
        simp only [Option.map_eq_some_iff] at h
        obtain ⟨r,h3,rfl⟩ := h
        have ih := items_run w he D h3
        have ha : aggAt P e = some false := by simp [aggAt,he]
        have p1 : (part e xs (i * 1)).run P w = .ok (.int k1 m) w := by simp [part,isAgg_run ha,e1]
        have p2 : (part e ys (i * 1)).run P w = .ok (.int k1 m') w := by simp [part,isAgg_run ha,e2]
        simp only [Op.eqItems,Sem.run_bind,p1,p2,Result.andThen_ok,run_equalIn_int w D e k1 k m m' he]
        cases hmm : (m == m')
        · simp
        · simp only [Bool.not_true,Bool.false_eq_true,if_false,Bool.true_and]; exact ih
      · cases h
    · cases h
theorem sim_eqArr (hi : Inj P β H base w) (he : EnvRel β env a.tmps) {neg : Bool} {t yt : TypeId} {x y : Operand} {o : Oper} (ho : o.op = .binOp (if neg then .neq else .eql) t x y yt) (hx : opdOk P x = true) (hy : opdOk P y = true)
    {n : Nat} {e : TypeId} (ht : P.underlying t = some (.array n e)) {r : ROp} (hc : eqlAgg P neg t x y = some r) {v H'}
    (hr : ropRun r (evalA env) H = some (v,H')) : Sim P β H base w (execOp a.eval o) v H' := by
  unfold eqlAgg at hc
  split at hc
  · cases hc
  · rename_i hg
    have hg : P.eqGuardType P.depth t = false := by simpa using hg
    simp only [Option.map_eq_some_iff] at hc
    obtain ⟨ls,hls,rfl⟩ := hc
    unfold leavesA at hls
    rw [ht] at hls
    dsimp only at hls
    split at hls
    · rename_i k hk hsz
      simp only [Option.some.injEq] at hls
      subst hls
      obtain ⟨i,hi1,hi2⟩ : ∃ i,P.info? e = some i ∧ i.size = 1 := by
        unfold sizeAt at hsz
        simpa [Option.map_eq_some_iff] using hsz
      have hco : P.cellsOf e = 1 := by simp [Program.cellsOf,hi1,hi2]
      simp only [ropRun] at hr
      split at hr
      · rename_i cs ds h1 h2
        simp only [Option.map_eq_some_iff,Prod.mk.injEq] at hr
        obtain ⟨b,hb,rfl,rfl⟩ := hr
        have e1 := eval_rel hi he hx; rw [h1] at e1
        have e2 := eval_rel hi he hy; rw [h2] at e2
        obtain ⟨cs',f1,s1,r1⟩ := e1.agg_inv
        obtain ⟨ds',f2,s2,r2⟩ := e2.agg_inv
        have hb' := eqLeaves_rel s1 s2 r1 r2 _ b hb
        have hq : (Op.equalIn 10000 t (.agg cs') (.agg ds')).run P w = .ok b w := by
          rw [show (10000 : Nat) = 9999 + 1 from rfl,run_equalIn_array w 9999 cs' ds' ht hi1,hco]
          exact items_run w hk 9998 hb'
        have hgr := fun op => run_eqGuard_agg (P := P) w op t x y cs' ds' hg
        refine .same hi (cv := .bool (neg != b)) ?_ (.bool _)
        cases neg
        · simp only [Bool.false_eq_true,if_false] at ho
          simp [execOp,ho,f1,f2,Sem.run_bind,hgr,run_eql_struct,hq,Result.andThen]
        · simp only [if_true] at ho
          simp [execOp,ho,f1,f2,Sem.run_bind,hgr,run_neq_struct,hq,Result.andThen]
      · cases hr
    · cases hls
/-! ### Maps -/
theorem leaf_at {cs : Array Value} : ∀ {ls : List (Nat × Bool)} {b : Bool} {l : Nat},eqLeaves cs cs ls = some b → (l,false) ∈ ls → ∃ q m,cs[l]? = some (.int q m)
  | [],b,l,_,h => by simp at h
  | (j,c) :: ls,b,l,h,hm => by
    rcases List.mem_cons.1 hm with e | e
    · cases e
      simp only [eqLeaves] at h
      split at h
      · rename_i k m k' n e1 e2; exact ⟨k,m,e1⟩
      · cases h
    · cases c
      · simp only [eqLeaves] at h
        split at h
        · split at h
          · simp only [Option.map_eq_some_iff] at h
            obtain ⟨r,h3,_⟩ := h
            exact leaf_at h3 e
          · cases h
        · cases h
      · simp only [eqLeaves] at h
        split at h
        · simp only [Option.map_eq_some_iff] at h
          obtain ⟨r,h3,_⟩ := h
          exact leaf_at h3 e
        · cases h
theorem keyA_ok {ls : List (Nat × Bool)} {cs : Array Value} (h : keyA ls cs = true) : cs.toList.all isIntV = true ∧ eqLeaves cs cs ls = some true := by
  unfold keyA at h
  rw [Bool.and_eq_true] at h
  exact ⟨h.1,by simpa using h.2⟩
theorem ints_inv {cs : Array Value} (hc : cs.toList.all isIntV = true) {v : Value} (h : VR β (.agg cs) v) : v = .agg cs := by
  obtain ⟨cs',rfl,hs,hr⟩ := h.agg_inv
  congr 1
  refine (Array.ext hs fun i h1 h2 => ?_).symm
  have hm : isIntV cs[i] = true := List.all_eq_true.1 hc _ (Array.mem_toList_iff.2 (Array.getElem_mem h1))
  have := hr i _ _ (Array.getElem?_eq_getElem h1) (Array.getElem?_eq_getElem h2)
  revert hm this
  generalize cs[i] = u
  intro hm this
  cases u with
  | int k n => exact this.int_inv.symm
  | _ => cases hm
theorem check_run {kt : TypeId} {fs : Array Field} (hk : P.underlying kt = some (.struct fs)) {ls : List (Nat × Bool)} (hf : keyFs P ls fs.toList = true) {cs : Array Value} (hc : eqLeaves cs cs ls = some true) (em : Bool) (n : Nat) :
    (Instr.checkKey em (n + 2) kt (.agg cs)).run P w = .ok () w := by
  rw [Instr.checkKey]
  simp only [Sem.run_bind,run_underlying hk,Result.andThen_ok]
  rw [← Array.forIn_toList]
  unfold keyFs at hf
  generalize fs.toList = L at hf
  induction L with
  | nil => simp
  | cons f L ih =>
    simp only [List.all_cons,Bool.and_eq_true] at hf
    obtain ⟨⟨hi,hm⟩,hrest⟩ := hf
    obtain ⟨k,hk2⟩ : ∃ k,P.underlying f.type = some (.int k) := by
      split at hi
      · rename_i k h; exact ⟨k,h⟩
      · cases hi
    obtain ⟨q,m,hq⟩ := leaf_at hc (l := f.offset) (by simpa using hm)
    have p1 : (part f.type cs f.offset).run P w = .ok (.int q m) w := by simp [part,isAgg_run (show aggAt P f.type = some false by simp [aggAt,hk2]),hq]
    have p2 : (Instr.checkKey em (n + 1) f.type (.int q m)).run P w = .ok () w := by simp [Instr.checkKey,run_underlying hk2]
    by_cases hn : f.name = "_"
    · simp only [List.forIn_cons,Sem.run_bind,hn,ne_eq,not_true_eq_false,if_false,Sem.run_pure,Result.andThen_ok]
      exact ih hrest
    · simp only [List.forIn_cons,Sem.run_bind,hn,ne_eq,not_false_eq_true,if_true,Result.andThen_ok,p1,p2,Sem.run_pure]
      exact ih hrest
def FoundRel (β : Beta) (es : List (Array Value × Value)) (i : Nat) : Option (Nat × Value) → Option (Nat × Value) → Prop
  | none,none => True
  | some (j,v),some (j',v') => j = j' ∧ VR β v v' ∧ i ≤ j ∧ j < i + es.length
  | _,_ => False
theorem find_run {kt : TypeId} {fs : Array Field} (hk : P.underlying kt = some (.struct fs)) {ls : List (Nat × Bool)} (hls : leavesT P 100 kt = some ls) {cs : Array Value} :
    ∀ {es : List (Array Value × Value)} {es' : List MapEntry} {i : Nat} {r : Option (Nat × Value)},EntsRel β es es' → findA ls cs es i = some r → ∃ r',(Instr.findAsking kt (.agg cs) es' i).run P w = .ok r' w ∧ FoundRel β es i r r'
  | [],es',i,r,he,h => by
    have : es' = [] := List.length_eq_zero_iff.1 he.1.symm
    subst this
    simp only [findA,Option.some.injEq] at h
    subst h
    exact ⟨none,by simp [Instr.findAsking],trivial⟩
  | (ds,v) :: es,[],i,r,he,h => by have := he.1; simp at this
  | (ds,v) :: es,e' :: es',i,r,he,h => by
    obtain ⟨h1,h2⟩ := he.2 0 _ _ rfl rfl
    have he2 : EntsRel β es es' := ⟨by have := he.1; simpa using this,fun j a b ha hb => he.2 (j + 1) a b (by simpa using ha) (by simpa using hb)⟩
    simp only [findA] at h
    split at h
    · rename_i hq
      cases h
      have hrun := equal_run (P := P) w 100 kt ls hls 10000 (by omega) fs hk cs ds true hq
      refine ⟨some (i,e'.val),?_,rfl,h2,Nat.le_refl _,by simp⟩
      simp only [Instr.findAsking,h1,Sem.run_bind]
      rw [show Op.equal kt (.agg cs) (.agg ds) = Op.equalIn 10000 kt (.agg cs) (.agg ds) from rfl,hrun]
      simp
    · rename_i hq
      have hrun := equal_run (P := P) w 100 kt ls hls 10000 (by omega) fs hk cs ds false hq
      obtain ⟨r',h3,h4⟩ := find_run hk hls he2 h
      refine ⟨r',?_,?_⟩
      · simp only [Instr.findAsking,h1,Sem.run_bind]
        rw [show Op.equal kt (.agg cs) (.agg ds) = Op.equalIn 10000 kt (.agg cs) (.agg ds) from rfl,hrun]
        simpa using h3
      · cases r with
        | none => cases r' with | none => trivial | some _ => exact h4.elim
        | some p => cases r' with
          | none => exact h4.elim
          | some q =>
            obtain ⟨a1,a2,a3,a4⟩ := h4
            exact ⟨a1,a2,by omega,by simp only [List.length_cons]; omega⟩
    · cases h
theorem key_run {kt : TypeId} {ls : List (Nat × Bool)} (hkl : keyLs P kt = some ls) {cs : Array Value} (hc : keyA ls cs = true) {es : List (Array Value × Value)} {es' : Array MapEntry} (he : EntsRel β es es'.toList) {r : Option (Nat × Value)}
    (h : findA ls cs es 0 = some r) (em : Bool) : (Instr.checkKey em 10000 kt (.agg cs)).run P w = .ok () w ∧ ∃ r',(Instr.findKey kt (.agg cs) es'.toList).run P w = .ok r' w ∧ FoundRel β es 0 r r' := by
  unfold keyLs at hkl
  split at hkl
  · rename_i fs ls' h1 h2
    split at hkl
    · rename_i hf
      cases hkl
      refine ⟨check_run h1 hf (keyA_ok hc).2 em 9998,?_⟩
      rw [run_findKey_eq w (by rw [h1]) _ _]
      exact find_run h1 h2 he h
    · cases hkl
  · cases hkl
theorem VR.map_inv {id : Nat} {v : Value} (h : VR β (.map (some id)) v) : ∃ p,β id = some p ∧ p.o = 0 ∧ v = .map (some p.b) := by
  cases h with | mapRef h h0 => exact ⟨_,h,h0,rfl⟩
theorem zero_run {e : TypeId} {z : Value} (h : zeroOf P e = some z) (w : World) : (zeroValue e).run P w = .ok z w := by
  unfold zeroOf at h
  split at h
  · rename_i i hi
    simp [zeroValue,typeInfo,Sem.run,hi,h]
  · cases h
theorem getM {r clk : Nat} {es : Array MapEntry} (hb : w.heap[r]? = some (.map es clk)) : (getObj r).run P w = .ok (.map es clk) w := by simp [getObj,Sem.run,hb]
theorem setM {r clk : Nat} {es : Array MapEntry} (o : Obj) (hb : w.heap[r]? = some (.map es clk)) : (setObj r o).run P w = .ok () { w with heap := w.heap.setIfInBounds r o } := by simp [setObj,Sem.run,hb]
theorem setM_get {r clk : Nat} {es : Array MapEntry} {o : Obj} (hb : w.heap[r]? = some (.map es clk)) : (w.heap.setIfInBounds r o)[r]? = some o ∧ ∀ k,k ≠ r → (w.heap.setIfInBounds r o)[k]? = w.heap[k]? := by
  have hlt : r < w.heap.size := (Array.getElem?_eq_some_iff.1 hb).1
  exact ⟨by simp [hlt],fun k hne => by simp [Ne.symm hne]⟩
theorem sim_makeMap (hi : Inj P β H base w) {t : TypeId} {o : Oper} (ho : o.op = .makeMap t none) {v H'}
    (hr : ropRun .makeMap (evalA env) H = some (v,H')) : Sim P β H base w (execOp a.eval o) v H' := by
  simp only [ropRun,Option.some.injEq,Prod.mk.injEq] at hr
  obtain ⟨rfl,rfl⟩ := hr
  refine ⟨.map (some w.heap.size),w.alloc (.map #[] 0),β.ext H.length ⟨w.heap.size,0,0⟩,.inl ?_,.mapRef (p := ⟨w.heap.size,0,0⟩) Beta.ext_self rfl,hi.push (.map []) 0 (.map #[] 0) rfl ?_,Post.push hi _ 0 (.map #[] 0) rfl rfl rfl rfl⟩
  · simp [execOp,ho,Instr.makeMap]
  · refine ⟨rfl,hi.base_le,#[],0,by show (w.heap.push (Obj.map #[] 0))[w.heap.size]? = _; simp,rfl,fun i e e' h => by simp at h⟩
theorem sim_mapGet (hi : Inj P β H base w) (he : EnvRel β env a.tmps) {t kt e : TypeId} {m k : Operand} {ok : Bool} {o : Oper} (ho : o.op = .lookup t m k ok) (hm : opdOk P m = true) (hk : opdOk P k = true)
    (ht : P.underlying t = some (.map kt e)) {ls : List (Nat × Bool)} (hkl : keyLs P kt = some ls) {z : Value} (hz : zeroOf P e = some z) {v H'}
    (hr : ropRun (.mapGet z ls ok m k) (evalA env) H = some (v,H')) : Sim P β H base w (execOp a.eval o) v H' := by
  have e1 := eval_rel hi he hm
  have e2 := eval_rel hi he hk
  simp only [ropRun] at hr
  split at hr
  · rename_i id cs h1 h2
    split at hr
    · rename_i es hH
      split at hr
      · rename_i hc
        obtain ⟨hcz,hc⟩ := hc
        simp only [Option.map_eq_some_iff,Prod.mk.injEq] at hr
        obtain ⟨r,hf,rfl,rfl⟩ := hr
        rw [h1] at e1; rw [h2] at e2
        obtain ⟨p,hp,h0,em⟩ := e1.map_inv
        have ek := ints_inv (keyA_ok hc).1 e2
        have ho' := hi.obj id p hp
        rw [hH] at ho'
        obtain ⟨_,_,es',clk,hb,hents⟩ := ho'
        obtain ⟨c1,r',c2,c3⟩ := key_run (w := w) hkl hc hents hf es'.isEmpty
        have hrun : (Instr.lookup t (.map (some p.b)) (.agg cs) ok).run P w = .ok (gotA z ok r') w := by
          unfold Instr.lookup
          cases r' with
          | none => simp [run_underlying ht,getM hb,c1,c2,zero_run hz,gotA]
          | some q => simp [run_underlying ht,getM hb,c1,c2,gotA]
        refine .same hi (cv := gotA z ok r') (by simp [execOp,ho,em,ek,hrun]) ?_
        have pair : ∀ {x y : Value} (b : Bool),VR β x y → VR β (.tuple #[x,.bool b]) (.tuple #[y,.bool b]) := fun {x y} b h => .tuple rfl fun i u u' a b' => by
          match i with
          | 0 => simp at a b'; subst a; subst b'; exact h
          | 1 => simp at a b'; subst a; subst b'; exact .bool b
          | i + 2 => simp at a
        cases r with
        | none =>
          cases r' with
          | none =>
            have := (constOk_closed hcz).rel β
            cases ok
            · exact this
            · exact pair false this
          | some _ => exact c3.elim
        | some q =>
          cases r' with
          | none => exact c3.elim
          | some q' =>
            obtain ⟨_,h3,_,_⟩ := c3
            cases ok
            · exact h3
            · exact pair true h3
      · cases hr
    · cases hr
  · cases hr
theorem sim_mapPut (hi : Inj P β H base w) (he : EnvRel β env a.tmps) {t kt e : TypeId} {m k x : Operand} {o : Oper} (ho : o.op = .mapUpdate t m k x ∨ o.op = .insert t m k x) (hm : opdOk P m = true) (hk : opdOk P k = true) (hx : opdOk P x = true)
    (ht : P.underlying t = some (.map kt e)) {ls : List (Nat × Bool)} (hkl : keyLs P kt = some ls) {v H'}
    (hr : ropRun (.mapPut ls m k x) (evalA env) H = some (v,H')) : Sim P β H base w (execOp a.eval o) v H' := by
  have e1 := eval_rel hi he hm
  have e2 := eval_rel hi he hk
  have e3 := eval_rel hi he hx
  simp only [ropRun] at hr
  split at hr
  · rename_i id cs h1 h2
    split at hr
    · rename_i es hH
      split at hr
      · rename_i hc
        simp only [Option.map_eq_some_iff,Prod.mk.injEq,Option.bind_eq_some_iff] at hr
        obtain ⟨es2,⟨r,hf,hput⟩,rfl,rfl⟩ := hr
        rw [h1] at e1; rw [h2] at e2
        obtain ⟨p,hp,h0,em⟩ := e1.map_inv
        have ek := ints_inv (keyA_ok hc).1 e2
        have ho' := hi.obj id p hp
        rw [hH] at ho'
        obtain ⟨_,_,es',clk,hb,hents⟩ := ho'
        obtain ⟨c1,r',c2,c3⟩ := key_run (w := w) hkl hc hents hf false
        have hlt : p.b < w.heap.size := hi.lt _ _ hp
        generalize hxv : a.eval x = xv at e3
        obtain ⟨cs2,clk2,hrun,hents2⟩ : ∃ cs2 clk2,(Instr.mapUpdate t (.map (some p.b)) (.agg cs) xv).run P w = .ok () { w with heap := w.heap.setIfInBounds p.b (.map cs2 clk2) } ∧ EntsRel β es2 cs2.toList := by
          cases r with
          | none =>
            cases r' with
            | some _ => exact c3.elim
            | none =>
              simp only [putA,Option.some.injEq] at hput
              subst hput
              refine ⟨es'.push { key := .agg cs,val := xv,born := clk },clk + 1,?_,?_⟩
              · unfold Instr.mapUpdate
                simp [run_underlying ht,getM hb,c1,c2,setM _ hb]
              · refine ⟨by simp; have := hents.1; simpa using this,fun i u u' a b => ?_⟩
                have hl : es.length = es'.size := by simpa using hents.1
                by_cases hi' : i < es.length
                · rw [List.getElem?_append_left hi'] at a
                  refine hents.2 i u u' a ?_
                  rw [Array.toList_push,List.getElem?_append_left (by simpa using (hl ▸ hi'))] at b
                  exact b
                · rw [List.getElem?_append_right (by omega)] at a
                  rw [Array.toList_push,List.getElem?_append_right (by simp; omega)] at b
                  have hi0 : i - es.length = 0 := by
                    have := (List.getElem?_eq_some_iff.1 a).1
                    simp at this; omega
                  rw [hi0] at a
                  rw [show i - es'.toList.length = 0 by simp; omega] at b
                  simp at a b
                  subst a; subst b
                  exact ⟨rfl,e3⟩
          | some q =>
            cases r' with
            | none => exact c3.elim
            | some q' =>
              obtain ⟨j,v1⟩ := q
              obtain ⟨j',v1'⟩ := q'
              obtain ⟨rfl,_,_,hj⟩ := c3
              simp only [putA] at hput
              split at hput
              · rename_i hsb
                cases hput
                have hl : es.length = es'.size := by simpa using hents.1
                have hj' : j < es.length := by omega
                have hold := hents.2 j es[j] es'[j] (List.getElem?_eq_getElem hj') (by simp [show j < es'.size by omega])
                have hgd : (es.getD j (#[],undef)).1 = es[j].1 := by rw [List.getD_eq_getElem?_getD,List.getElem?_eq_getElem hj']; rfl
                rw [hgd,← hold.1] at hsb
                refine ⟨es'.modify j fun e => { e with key := .agg cs,val := xv },clk,?_,?_⟩
                · unfold Instr.mapUpdate
                  have hst : (Instr.keyThatStays es'[j].key (.agg cs)).run P w = .ok (.agg cs) w := by simp [Instr.keyThatStays,hsb]
                  simp [run_underlying ht,getM hb,c1,c2,show j < es'.size by omega,hst,setM _ hb]
                · refine ⟨by simp; omega,fun i u u' a b => ?_⟩
                  rw [Array.toList_modify,List.getElem?_modify] at b
                  by_cases hij : j = i
                  · subst hij
                    rw [List.getElem?_set_self hj'] at a
                    cases a
                    cases hq : es'.toList[j]? with
                    | none => rw [hq] at b; cases b
                    | some y =>
                      rw [hq] at b
                      simp only [Option.map_eq_map,Option.map_some,if_true,Option.some.injEq] at b
                      subst b
                      exact ⟨rfl,e3⟩
                  · rw [List.getElem?_set_ne hij] at a
                    cases hq : es'.toList[i]? with
                    | none => rw [hq] at b; cases b
                    | some y =>
                      rw [hq] at b
                      simp only [Option.map_eq_map,Option.map_some,hij,if_false,Option.some.injEq] at b
                      subst b
                      exact hents.2 i u y a hq
              · cases hput
        have hs := setM_get (o := Obj.map cs2 clk2) hb
        refine ⟨undef,{ w with heap := w.heap.setIfInBounds p.b (.map cs2 clk2) },β,.inr ⟨?_,rfl⟩,undef_rel,hi.setM hp hH hs.2 (by simp) ⟨cs2,clk2,hs.1,hents2⟩,Post.setM hi hp hH hs.2 (by simp) rfl rfl rfl⟩
        rcases ho with ho | ho <;> simp [execOp,ho,em,ek,hxv,hrun]
      · cases hr
    · cases hr
  · cases hr
theorem op_sim (hi : Inj P β H base w) (he : EnvRel β env a.tmps) {o : Oper} {v H'} (hr : ropRun (opOf P o.op) (evalA env) H = some (v,H')) :
    Sim P β H base w (execOp a.eval o) v H' := by
  unfold opOf at hr
  split at hr
  case isFalse => rw [fail_none] at hr; cases hr
  rename_i hall
  cases hc : compileOp P o.op with
  | none => rw [hc,fail_none] at hr; cases hr
  | some r =>
  rw [hc] at hr
  simp only [orFail,Option.getD_some] at hr
  have hok : ∀ x ∈ o.op.operands.toList,opdOk P x = true := fun x hx => List.all_eq_true.1 hall x hx
  cases ho : o.op with
  | move x =>
    rw [ho] at hc hok; simp only [compileOp,Option.some.injEq] at hc; subst hc
    have : execOp a.eval o = Pure.pure (Next.value (a.eval x)) := by simp [execOp,ho]
    rw [this]; exact sim_mov hi he (hok x (by simp [Op.operands])) hr
  | assign x =>
    rw [ho] at hc hok; simp only [compileOp,Option.some.injEq] at hc; subst hc
    have : execOp a.eval o = Pure.pure (Next.value (a.eval x)) := by simp [execOp,ho]
    rw [this]; exact sim_mov hi he (hok x (by simp [Op.operands])) hr
  | pick c x y =>
    rw [ho] at hc hok; simp only [compileOp,Option.some.injEq] at hc; subst hc
    exact sim_pick hi he ho (hok _ (by simp [Op.operands])) (hok _ (by simp [Op.operands])) (hok _ (by simp [Op.operands])) hr
  | alloc t =>
    rw [ho] at hc hok; simp only [compileOp,Option.map_eq_some_iff] at hc
    obtain ⟨z,hz,rfl⟩ := hc
    exact sim_alloc hi ho hz hr
  | box t x =>
    rw [ho] at hc hok; simp only [compileOp,Option.some.injEq] at hc; subst hc
    exact sim_box hi he ho (hok _ (by simp [Op.operands])) hr
  | build t parts =>
    rw [ho] at hc hok; simp only [compileOp] at hc
    have hp : ∀ q ∈ parts.toList,opdOk P q.2 = true := fun q hq => hok q.2 (by simp [Op.operands]; exact ⟨q.1,by simpa using hq⟩)
    split at hc
    · rename_i z fs hz hd
      split at hc
      · rename_i ps hps
        simp only [Option.map_eq_some_iff] at hc
        obtain ⟨qs,hq,rfl⟩ := hc
        exact sim_build hi he ho hp hz hq (.inl ⟨fs,ps,hd,hps,rfl⟩) hr
      · cases hc
    · rename_i z n e hz hd
      split at hc
      · rename_i s hs
        simp only [Option.map_eq_some_iff] at hc
        obtain ⟨qs,hq,rfl⟩ := hc
        exact sim_build hi he ho hp hz hq (.inr ⟨n,e,s,hd,hs,rfl⟩) hr
      · cases hc
    · cases hc
  | buildSlice t len parts =>
    rw [ho] at hc hok; simp only [compileOp] at hc
    have hp : ∀ q ∈ parts.toList,opdOk P q.2 = true := fun q hq => hok q.2 (by simp [Op.operands]; exact ⟨q.1,by simpa using hq⟩)
    split at hc
    · rename_i e hd
      split at hc
      · rename_i s z hs hz
        split at hc
        · rename_i hcc
          simp only [Option.map_eq_some_iff] at hc
          obtain ⟨qs,hq,rfl⟩ := hc
          exact sim_buildSlice hi he ho hp hd hs hz hcc.1 hcc.2 hq hr
        · split at hc
          · rename_i hcc
            cases hc
            exact sim_buildSlice0 hi ho hd hs hcc.1 hcc.2 hr
          · cases hc
      · cases hc
    · cases hc
  | insert t m k x =>
    rw [ho] at hc hok; simp only [compileOp] at hc
    split at hc
    · rename_i kt e hd
      simp only [Option.map_eq_some_iff] at hc
      obtain ⟨ls,hl,rfl⟩ := hc
      exact sim_mapPut hi he (.inr ho) (hok _ (by simp [Op.operands])) (hok _ (by simp [Op.operands])) (hok _ (by simp [Op.operands])) hd hl hr
    · cases hc
  | load t x =>
    rw [ho] at hc hok; simp only [compileOp] at hc
    split at hc
    · rename_i n h1 h2; cases hc; exact sim_loadN hi he ho (hok _ (by simp [Op.operands])) h1 h2 hr
    · rename_i h1; cases hc; exact sim_load hi he ho (hok _ (by simp [Op.operands])) h1 hr
    · cases hc
  | store t x y =>
    rw [ho] at hc hok; simp only [compileOp,Option.map_eq_some_iff] at hc
    obtain ⟨n,hn,rfl⟩ := hc
    exact sim_store hi he ho (hok _ (by simp [Op.operands])) (hok _ (by simp [Op.operands])) hn hr
  | ready g => rw [ho] at hc; simp [compileOp] at hc
  | waits g => rw [ho] at hc; simp [compileOp] at hc
  | nilCheck x =>
    rw [ho] at hc hok; simp only [compileOp,Option.some.injEq] at hc; subst hc
    exact sim_nilCheck hi he ho (hok _ (by simp [Op.operands])) hr
  | binOp op t x y yt =>
    rw [ho] at hc hok; simp only [compileOp] at hc
    have hx := hok x (by simp [Op.operands])
    have hy := hok y (by simp [Op.operands])
    split at hc
    case h_37 => cases hc
    case h_35 => split at hc <;> cases hc; exact sim_eqvI (neg := false) hi he rfl ho hx hy (by simp) (by assumption) hr
    case h_36 => split at hc <;> cases hc; exact sim_eqvI (neg := true) hi he rfl ho hx hy (by simp) (by assumption) hr
    case h_22 => exact sim_eqArr (neg := false) hi he ho hx hy (by assumption) hc hr
    case h_23 => exact sim_eqArr (neg := true) hi he ho hx hy (by assumption) hc hr
    case h_20 => exact sim_eqAgg (neg := false) hi he ho hx hy (by assumption) hc hr
    case h_21 => exact sim_eqAgg (neg := true) hi he ho hx hy (by assumption) hc hr
    all_goals cases hc
    · exact sim_arith hi he ho hx hy (by simp) hr
    · exact sim_arith hi he ho hx hy (by simp) hr
    · exact sim_arith hi he ho hx hy (by simp) hr
    · exact sim_arith hi he ho hx hy (by simp) hr
    · exact sim_arith hi he ho hx hy (by simp) hr
    · exact sim_cmp hi he ho hx hy (by simp) hr
    · exact sim_cmp hi he ho hx hy (by simp) hr
    · exact sim_cmp hi he ho hx hy (by simp) hr
    · exact sim_cmp hi he ho hx hy (by simp) hr
    · exact sim_cmp hi he ho hx hy (by simp) hr
    · exact sim_cmp hi he ho hx hy (by simp) hr
    · exact sim_eqv (neg := false) hi he ho hx hy (by simp) (by assumption) (by simp [kindOf]) hr
    · exact sim_eqv (neg := false) hi he ho hx hy (by simp) (by assumption) (by simp [kindOf]) hr
    · exact sim_eqv (neg := false) hi he ho hx hy (by simp) (by assumption) (by simp [kindOf]) hr
    · exact sim_eqv (neg := false) hi he ho hx hy (by simp) (by assumption) (by simp [kindOf]) hr
    · exact sim_eqv (neg := true) hi he ho hx hy (by simp) (by assumption) (by simp [kindOf]) hr
    · exact sim_eqv (neg := true) hi he ho hx hy (by simp) (by assumption) (by simp [kindOf]) hr
    · exact sim_eqv (neg := true) hi he ho hx hy (by simp) (by assumption) (by simp [kindOf]) hr
    · exact sim_eqv (neg := true) hi he ho hx hy (by simp) (by assumption) (by simp [kindOf]) hr
    · exact sim_band hi he ho hx hy hr
    · exact sim_shr hi he ho hx hy hr
    · exact sim_bor hi he ho hx hy hr
    · exact sim_shl hi he ho hx hy hr
    all_goals exact sim_strOp hi he ho hx hy hr
  | unOp op t x =>
    rw [ho] at hc hok
    cases op <;> simp only [compileOp,Option.some.injEq,reduceCtorEq] at hc <;> subst hc
    · exact sim_neg hi he ho (hok _ (by simp [Op.operands])) hr
    · exact sim_not hi he ho (hok _ (by simp [Op.operands])) hr
  | convert s t x =>
    rw [ho] at hc hok; simp only [compileOp] at hc
    split at hc
    · rename_i d k h1 h2; cases hc; exact sim_conv hi he ho (hok _ (by simp [Op.operands])) h2 h1 hr
    · rename_i e h1 h2
      split at hc
      · rename_i h3; cases hc; exact sim_byteS hi he ho (hok _ (by simp [Op.operands])) h1 h2 h3 hr
      · cases hc
    · rename_i e h1 h2
      split at hc
      · rename_i h3; cases hc; exact sim_bytesS hi he ho (hok _ (by simp [Op.operands])) h1 h2 h3 hr
      · cases hc
    · cases hc
  | sliceToArrayPointer t x => rw [ho] at hc; simp [compileOp] at hc
  | makeInterface t x =>
    rw [ho] at hc hok; simp only [compileOp] at hc
    split at hc
    · cases hc
    · rename_i d h1 h2; cases hc; exact sim_iface hi he ho (hok _ (by simp [Op.operands])) h2 (fun ms e => h1 ms e) hr
    · cases hc
  | makeFunc fn xs ys =>
    rw [ho] at hc hok; simp only [compileOp,Option.some.injEq] at hc; subst hc
    exact sim_mkFunc hi he ho (fun x hx => hok x (by simp [Op.operands]; exact .inl (by simpa using hx))) (fun x hx => hok x (by simp [Op.operands]; exact .inr (by simpa using hx))) hr
  | makeMap t r =>
    rw [ho] at hc
    cases r with
    | none => simp only [compileOp,Option.some.injEq] at hc; subst hc; exact sim_makeMap hi ho hr
    | some r => simp [compileOp] at hc
  | makeChan t s => rw [ho] at hc; simp [compileOp] at hc
  | makeSlice t x y =>
    rw [ho] at hc hok; simp only [compileOp] at hc
    split at hc
    · rename_i e hd
      split at hc
      · rename_i ti hti
        split at hc
        · rename_i z hz
          split at hc
          · rename_i hcc
            cases hc
            exact sim_mkSlice hi he ho (hok _ (by simp [Op.operands])) (hok _ (by simp [Op.operands])) hd hti hz hcc.1 hcc.2 hr
          · cases hc
        · cases hc
      · cases hc
    · cases hc
  | slice t x lo hh mx =>
    rw [ho] at hc hok; simp only [compileOp] at hc
    split at hc
    · rename_i e hd
      simp only [Option.map_eq_some_iff] at hc
      obtain ⟨n,hn,rfl⟩ := hc
      exact sim_slice hi he ho (hok _ (by simp [Op.operands])) (fun y hy => hok y (by simp [Op.operands]; simp at hy; simp [hy])) (fun y hy => hok y (by simp [Op.operands]; simp at hy; simp [hy])) (fun y hy => hok y (by simp [Op.operands]; simp at hy; simp [hy])) hd hn hr
    · rename_i hd
      cases hc
      exact sim_sliceS hi he ho (hok _ (by simp [Op.operands])) (fun y hy => hok y (by simp [Op.operands]; simp at hy; simp [hy])) (fun y hy => hok y (by simp [Op.operands]; simp at hy; simp [hy])) hd hr
    · rename_i n e hd
      exact sim_arrS hi he ho (hok _ (by simp [Op.operands])) hd hc hr
    · cases hc
  | fieldAddr s x i =>
    rw [ho] at hc hok; simp only [compileOp] at hc
    split at hc
    · rename_i fs hd
      split at hc
      · rename_i f hf
        split at hc
        · rename_i n hn
          cases hc
          exact sim_fieldAddr hi he ho (hok _ (by simp [Op.operands])) hd hf hn hr
        · cases hc
      · cases hc
    · cases hc
  | field s x i =>
    rw [ho] at hc hok; simp only [compileOp] at hc
    split at hc
    · rename_i fs hd
      split at hc
      · rename_i f hf
        split at hc
        · rename_i n h1 h2; cases hc; exact sim_fieldN hi he ho (hok _ (by simp [Op.operands])) hd hf h1 h2 hr
        · rename_i h1; cases hc; exact sim_field hi he ho (hok _ (by simp [Op.operands])) hd hf h1 hr
        · cases hc
      · cases hc
    · cases hc
  | indexAddr t x y =>
    rw [ho] at hc hok; simp only [compileOp] at hc
    split at hc
    · rename_i e hd
      simp only [Option.map_eq_some_iff] at hc
      obtain ⟨n,hn,rfl⟩ := hc
      exact sim_idxAddr hi he ho (hok _ (by simp [Op.operands])) (hok _ (by simp [Op.operands])) hd hn hr
    · rename_i len e hd
      simp only [Option.map_eq_some_iff] at hc
      obtain ⟨n,hn,rfl⟩ := hc
      exact sim_idxAddrA hi he ho (hok _ (by simp [Op.operands])) (hok _ (by simp [Op.operands])) hd hn hr
    · cases hc
  | index t x y =>
    rw [ho] at hc hok; simp only [compileOp] at hc
    split at hc
    · rename_i len e hd
      split at hc
      · rename_i n h1 h2; cases hc; exact sim_idxAN hi he ho (hok _ (by simp [Op.operands])) (hok _ (by simp [Op.operands])) hd h2 h1 hr
      · rename_i h1 h2; cases hc; exact sim_idxA hi he ho (hok _ (by simp [Op.operands])) (hok _ (by simp [Op.operands])) hd h2 h1 hr
      · cases hc
    · rename_i hd; cases hc; exact sim_idxS hi he ho (hok _ (by simp [Op.operands])) (hok _ (by simp [Op.operands])) hd hr
    · cases hc
  | lookup t m k ok =>
    rw [ho] at hc hok; simp only [compileOp] at hc
    split at hc
    · rename_i kt e hd
      split at hc
      · rename_i ls z hl hz
        cases hc
        exact sim_mapGet hi he ho (hok _ (by simp [Op.operands])) (hok _ (by simp [Op.operands])) hd hl hz hr
      · cases hc
    · cases hc
  | mapUpdate t m k x =>
    rw [ho] at hc hok; simp only [compileOp] at hc
    split at hc
    · rename_i kt e hd
      simp only [Option.map_eq_some_iff] at hc
      obtain ⟨ls,hl,rfl⟩ := hc
      exact sim_mapPut hi he (.inl ho) (hok _ (by simp [Op.operands])) (hok _ (by simp [Op.operands])) (hok _ (by simp [Op.operands])) hd hl hr
    · cases hc
  | mapEntry t m k => rw [ho] at hc; simp [compileOp] at hc
  | entryStore t m s x => rw [ho] at hc; simp [compileOp] at hc
  | range t x => rw [ho] at hc; simp [compileOp] at hc
  | next x b => rw [ho] at hc; simp [compileOp] at hc
  | entry x => rw [ho] at hc; simp [compileOp] at hc
  | typeAssert x s t ok => rw [ho] at hc; simp [compileOp] at hc
  | extract x i =>
    rw [ho] at hc hok; simp only [compileOp,Option.some.injEq] at hc; subst hc
    exact sim_extract hi he ho (hok _ (by simp [Op.operands])) hr
  | call c =>
    rw [ho] at hc hok; simp only [compileOp] at hc
    obtain ⟨callee,args,ts⟩ := c
    cases callee with
    | builtin b => exact sim_builtin hi he ho (fun x hx => hok x (by simp [Op.operands,Call.operands]; simpa using hx)) hc hr
    | value f => cases hc; simp [ropRun] at hr
    | invoke r m => cases hc
  | go c => rw [ho] at hc; simp [compileOp] at hc
  | defer c => rw [ho] at hc; simp [compileOp] at hc
  | panic x => rw [ho] at hc; simp [compileOp] at hc
  | send x y => rw [ho] at hc; simp [compileOp] at hc
  | recv t x ok => rw [ho] at hc; simp [compileOp] at hc
  | select cs b => rw [ho] at hc; simp [compileOp] at hc
end
end Go.Lq
