/- Towards TopJoinChanges of seat YtpgemmklfaedfacGreat: it returns true for every input. Made out of the proof's own texts, merged. -/
import Derived.TacticsIn
import Derived.Deep.LoopGhost
import Derived.RangeFuncRecord
import Derived.OrdersIn
import Derived.RangeFuncLeaves
import Derived.RangeFuncIn
import Derived.Test.YtpgemmklfaedfacGreatB1
set_option linter.unusedSimpArgs false
set_option linter.unnecessarySimpa false
set_option linter.unusedVariables false
set_option linter.unusedSectionVars false
namespace Go.Lq
open Go
def wideF (ro : Option Nat) : Fence := { Fence.wide with round := ro }
theorem wideF_fn (ro : Option Nat) (f : FuncId) : (wideF ro).fn f := trivial
theorem callsIn_wideF {ro : Option Nat} {n : Nat} {P : Program} {f : FuncId} {args : Array Value} {w : World} {R : Ending → World → Prop} :
    CallsIn (wideF ro) n P f args w R ↔ Calls P f args w R :=
  ⟨fun h => callsIn_wide (n := n).1 h,fun h => callsIn_wide (n := n).2 h⟩
def Enters (P : Program) (f : FuncId) : Prop := ∃ fn,P.funcs[f]? = some fn ∧ fn.body.isSome = true ∧ (fn.name == "runtime.NumGoroutine") = false
def Back (P : Program) (β : Beta) (H : AHeap) (base : Nat) (w : World) (Q : Value → AHeap → Prop) (e : Ending) (w' : World) : Prop :=
  ∃ v cv β' H',e = .returned cv ∧ Q v H' ∧ VR β' v cv ∧ Inj P β' H' base w' ∧ Post β H w β' H' w'
def ACall (P : Program) (f : FuncId) (args : List Value) (H : AHeap) (Q : Value → AHeap → Prop) : Prop :=
  Enters P f ∧ ∀ (base : Nat) (β : Beta) (w : World) (cargs : Array Value),Inj P β H base w → VRs β args cargs.toList → Calls P f cargs w (Back P β H base w Q)
def ARound (P : Program) (l : Nat) (args : List Value) (H : AHeap) (Q : Value → AHeap → Prop) : Prop :=
  ∀ (base : Nat) (β : Beta) (w : World) (cargs : Array Value) (p : ALoc),Inj P β H base w → β l = some p → VRs β args cargs.toList →
    ∃ f tmps assign body,(Instr.yield p.b cargs).run P w = .ok (.round p.b f tmps assign body) w ∧
      ∀ ro n,RoundIn (wideF ro) n P p.b f tmps assign body w (Back P β H base w Q)
def AInvoke (P : Program) (fv : Value) (args : List Value) (H : AHeap) (Q : Value → AHeap → Prop) : Prop :=
  match fv with
  | .func (.func f) xs ys => ACall P f (xs.toList ++ args ++ ys.toList) H Q
  | .func (.yield l) xs _ => ARound P l (xs.toList ++ args) H Q
  | _ => False
theorem Back.mono {P β H base w Q Q' e w'} (h : Back P β H base w Q e w') (hq : ∀ v H',Q v H' → Q' v H') : Back P β H base w Q' e w' := by
  obtain ⟨v,cv,β',H',h1,h2,h3⟩ := h
  exact ⟨v,cv,β',H',h1,hq _ _ h2,h3⟩
theorem ACall.mono {P f args H Q Q'} (h : ACall P f args H Q) (hq : ∀ v H',Q v H' → Q' v H') : ACall P f args H Q' :=
  ⟨h.1,fun base β w cargs hi hv => (h.2 base β w cargs hi hv).mono fun _ _ hb => hb.mono hq⟩
theorem ARound.mono {P l args H Q Q'} (h : ARound P l args H Q) (hq : ∀ v H',Q v H' → Q' v H') : ARound P l args H Q' := fun base β w cargs p hi hp hv => by
  obtain ⟨f,tmps,assign,body,h1,h2⟩ := h base β w cargs p hi hp hv
  exact ⟨f,tmps,assign,body,h1,fun ro n => (h2 ro n).mono fun _ _ hb => hb.mono hq⟩
theorem AInvoke.mono {P fv args H Q Q'} (h : AInvoke P fv args H Q) (hq : ∀ v H',Q v H' → Q' v H') : AInvoke P fv args H Q' := by
  unfold AInvoke at *
  split at h
  · exact h.mono hq
  · exact h.mono hq
  · exact h.elim
def Marks (lo : Nat) (ds : List Deferred) (w : World) : Prop :=
  lo ≤ w.heap.size ∧ ∃ ms : List Nat,ds = ms.map (fun m => ({ target := .collected m,args := #[] } : Deferred)) ∧ ms.Nodup ∧ ∀ m ∈ ms,lo ≤ m ∧ w.heap[m]? = some (.deferred (some []))
theorem Inj.mark {P β H base w} (hi : Inj P β H base w) {m : Nat} {ob : Option (List Deferred)} (hm : w.heap[m]? = some (.deferred ob)) : ∀ id p,β id = some p → p.b = m → mutAt H id = true → False := by
  intro id p hid hb hmut
  subst hb
  have hr := hi.obj id p hid
  unfold mutAt at hmut
  split at hmut
  · rename_i esz vs hH
    rw [hH] at hr
    obtain ⟨cs,t,fz,h1,_⟩ := hr
    rw [hm] at h1; cases h1
  · rename_i r hH
    rw [hH] at hr
    obtain ⟨_,_,r',h1,_⟩ := hr
    rw [hm] at h1; cases h1
  · rename_i r hH
    rw [hH] at hr
    obtain ⟨_,_,r',clk,h1,_⟩ := hr
    rw [hm] at h1; cases h1
  · cases hmut
theorem Marks.step {P β H base w β' H' w' lo ds} (hi : Inj P β H base w) (hp : Post β H w β' H' w') (h : Marks lo ds w) : Marks lo ds w' := by
  obtain ⟨h0,ms,h1,h2,h3⟩ := h
  exact ⟨Nat.le_trans h0 hp.size,ms,h1,h2,fun m hm => ⟨(h3 m hm).1,by rw [hp.frame m (Array.getElem?_eq_some_iff.1 (h3 m hm).2).1 (hi.mark (h3 m hm).2)]; exact (h3 m hm).2⟩⟩
theorem Marks.drew {lo ds} {w : World} (h : Marks lo ds w) (n : Nat) : Marks lo ds { w with drawn := n } := h
def Out (P : Program) (lo : Nat) (β : Beta) (H : AHeap) (base : Nat) (w : World) (Q : AExit → Env → AHeap → Prop) (e : Exit) (a' : Act) (w' : World) : Prop :=
  ∃ x env' H' β',e = x.up ∧ Q x env' H' ∧ Inj P β' H' base w' ∧ EnvRel β' env' a'.tmps ∧ Post β H w β' H' w' ∧ Marks lo a'.defers w'
theorem Out.mono {P lo β H base w Q Q' e a' w'} (h : Out P lo β H base w Q e a' w') (hq : ∀ x env H,Q x env H → Q' x env H) : Out P lo β H base w Q' e a' w' := by
  obtain ⟨x,env',H',β',h1,h2,h3⟩ := h
  exact ⟨x,env',H',β',h1,hq _ _ _ h2,h3⟩
theorem Out.trans {P lo β H base w β₁ H₁ w₁ Q e a' w'} (hi : Inj P β H base w) (hp : Post β H w β₁ H₁ w₁) (h : Out P lo β₁ H₁ base w₁ Q e a' w') : Out P lo β H base w Q e a' w' := by
  obtain ⟨x,env',H',β',h1,h2,h3,h4,h5,h6⟩ := h
  exact ⟨x,env',H',β',h1,h2,h3,h4,hp.trans hi.dom h5,h6⟩
def RoRel (β : Beta) (ar ro : Option Nat) : Prop :=
  match ar,ro with
  | none,none => True
  | some l,some b => ∃ p,β l = some p ∧ p.b = b
  | _,_ => False
theorem RoRel.mono {β β' : Beta} (h : β.le β') {ar ro : Option Nat} (r : RoRel β ar ro) : RoRel β' ar ro := by
  unfold RoRel at *
  split at r
  · trivial
  · obtain ⟨p,h1,h2⟩ := r; exact ⟨p,h _ _ h1,h2⟩
  · exact r
def AWP (P : Program) (ar : Option Nat) (R : RCode) (Q : AExit → Env → AHeap → Prop) (env : Env) (H : AHeap) : Prop :=
  P.follows .mixedOrders = true → ∀ (ro : Option Nat) (n base lo : Nat) (β : Beta) (w : World) (a : Act) (code : Code),compile P code = some R → RoRel β ar ro → Inj P β H base w → EnvRel β env a.tmps → Marks lo a.defers w →
    code.wpIn (wideF ro) n P (Out P lo β H base w Q) a w
theorem AWP.mono {P ar R Q Q' env H} (h : AWP P ar R Q env H) (hq : ∀ x env H,Q x env H → Q' x env H) : AWP P ar R Q' env H :=
  fun hm ro n base lo β w a code hc ho hi he hk => wpIn_mono (h hm ro n base lo β w a code hc ho hi he hk) fun _ _ _ o => o.mono hq
theorem compile_region {P id ops d x} (h : compile P (.region id ops d) = some x) :
    (∃ l,d = false ∧ x = .ops l ∧ ops.toList.mapM (compileOper P ops) = some l) ∨ (∃ O l,d = true ∧ (O = ops ∨ O = softOps ops) ∧ x = .draw (l.zip (freeList O)) ∧ drawOk O = true ∧ O.toList.mapM (compileOper P O) = some l) ∨
    (∃ fs l,d = true ∧ x = .drawF fs (l.zip (freeList (hideOps ops))) ∧ drawOk (hideOps ops) = true ∧ noV (hideOps ops) = true ∧ (holds ops).mapM (holdSize P ops) = some fs ∧ (hideOps ops).toList.mapM (compileOper P (hideOps ops)) = some l) ∨
    (∃ h n l,d = true ∧ x = .drawS h.2.2.1 n h.2.2.2 (l.zip (freeList (hideAt ops h.1))) ∧ lateOf ops = some h ∧ sizeAt P h.2.1 = some n ∧ (hideAt ops h.1).toList.mapM (compileOper P (hideAt ops h.1)) = some l) ∨
    (∃ l,d = true ∧ x = .anyO (l.zip (ops.toList.map afterA)) ∧ ops.toList.mapM (compileOper P ops) = some l) := by
  cases d
  · simp only [compile,Option.map_eq_some_iff] at h
    obtain ⟨y,h1,rfl⟩ := h
    exact .inl ⟨y,rfl,rfl,h1⟩
  · simp only [compile] at h
    split at h
    · rename_i hd
      simp only [Bool.and_eq_true] at hd
      simp only [Option.map_eq_some_iff] at h
      obtain ⟨y,h1,rfl⟩ := h
      exact .inr (.inl ⟨ops,y,rfl,.inl rfl,rfl,hd.1,h1⟩)
    · split at h
      · rename_i hd
        simp only [Bool.and_eq_true] at hd
        split at h
        · rename_i fs l h1 h2
          simp only [Option.some.injEq] at h
          exact .inr (.inr (.inl ⟨fs,l,rfl,h.symm,hd.1,hd.2,h1,h2⟩))
        · simp at h
      · split at h
        · rename_i g hg
          split at h
          · rename_i n l h1 h2
            simp only [Option.some.injEq] at h
            exact .inr (.inr (.inr (.inl ⟨g,n,l,rfl,h.symm,hg,h1,h2⟩)))
          · simp at h
        · split at h
          · rename_i hd
            simp only [Option.map_eq_some_iff] at h
            obtain ⟨y,h1,rfl⟩ := h
            exact .inr (.inl ⟨softOps ops,y,rfl,.inr rfl,rfl,hd,h1⟩)
          · split at h
            · simp only [Option.map_eq_some_iff] at h
              obtain ⟨y,h1,rfl⟩ := h
              exact .inr (.inr (.inr (.inr ⟨y,rfl,rfl,h1⟩)))
            · simp at h
theorem compile_inv {P : Program} {c : Code} {x : RCode} (h : compile P c = some x) :
    match x with
    | .skip => c = .skip
    | .ops l => ∃ id ops,c = .region id ops false ∧ ops.toList.mapM (compileOper P ops) = some l
    | .draw ll => ∃ id ops O l,c = .region id ops true ∧ (O = ops ∨ O = softOps ops) ∧ drawOk O = true ∧ O.toList.mapM (compileOper P O) = some l ∧ ll = l.zip (freeList O)
    | .drawF fs ll => ∃ id ops l,c = .region id ops true ∧ drawOk (hideOps ops) = true ∧ noV (hideOps ops) = true ∧ (holds ops).mapM (holdSize P ops) = some fs ∧ (hideOps ops).toList.mapM (compileOper P (hideOps ops)) = some l ∧ ll = l.zip (freeList (hideOps ops))
    | .drawS d n x ll => ∃ id ops l j t,c = .region id ops true ∧ lateOf ops = some (j,t,d,x) ∧ sizeAt P t = some n ∧ (hideAt ops j).toList.mapM (compileOper P (hideAt ops j)) = some l ∧ ll = l.zip (freeList (hideAt ops j))
    | .anyO ll => ∃ id ops l,c = .region id ops true ∧ ops.toList.mapM (compileOper P ops) = some l ∧ ll = l.zip (ops.toList.map afterA)
    | .seq x y => ∃ a b,c = .seq a b ∧ compile P a = some x ∧ compile P b = some y
    | .cond o x y => ∃ a b,c = .cond o a b ∧ opdOk P o = true ∧ compile P a = some x ∧ compile P b = some y
    | .block id x => ∃ a,c = .block id a ∧ compile P a = some x
    | .loop x => ∃ a,c = .loop a ∧ compile P a = some x
    | .scope x => ∃ a,c = .scope a ∧ compile P a = some x
    | .label l => c = .label l
    | .rangeFunc f ps x y => ∃ qs a b,c = .rangeFunc f qs a b ∧ qs.toList = ps ∧ opdOk P f = true ∧ compile P a = some x ∧ compile P b = some y
    | .exit id => c = .exit id
    | .ret => c = .ret := by
  cases c with
  | skip => simp only [compile,Option.some.injEq] at h; subst h; rfl
  | ret => simp only [compile,Option.some.injEq] at h; subst h; rfl
  | exit id => simp only [compile,Option.some.injEq] at h; subst h; rfl
  | region id ops d =>
    rcases compile_region h with ⟨l,rfl,rfl,h1⟩ | ⟨O,l,rfl,hO,rfl,h1,h2⟩ | ⟨fs,l,rfl,rfl,h1,h2,h3,h4⟩ | ⟨g,n,l,rfl,rfl,h1,h2,h3⟩ | ⟨l,rfl,rfl,h1⟩
    · exact ⟨id,ops,rfl,h1⟩
    · exact ⟨id,ops,O,l,rfl,hO,h1,h2,rfl⟩
    · exact ⟨id,ops,l,rfl,h1,h2,h3,h4,rfl⟩
    · exact ⟨id,ops,l,g.1,g.2.1,rfl,h1,h2,h3,rfl⟩
    · exact ⟨id,ops,l,rfl,h1,rfl⟩
  | seq a b =>
    simp only [compile] at h
    split at h
    · simp only [Option.some.injEq] at h; subst h; exact ⟨a,b,rfl,by assumption,by assumption⟩
    · simp at h
  | cond o a b =>
    simp only [compile] at h
    split at h
    · simp only [Option.some.injEq] at h; subst h; exact ⟨a,b,rfl,by assumption,by assumption,by assumption⟩
    · simp at h
  | block id a =>
    simp only [compile,Option.map_eq_some_iff] at h
    obtain ⟨y,h1,rfl⟩ := h
    exact ⟨a,rfl,h1⟩
  | loop a =>
    simp only [compile,Option.map_eq_some_iff] at h
    obtain ⟨y,h1,rfl⟩ := h
    exact ⟨a,rfl,h1⟩
  | scope a =>
    simp only [compile,Option.map_eq_some_iff] at h
    obtain ⟨y,h1,rfl⟩ := h
    exact ⟨a,rfl,h1⟩
  | label l => simp only [compile,Option.some.injEq] at h; subst h; rfl
  | rangeFunc f qs a b =>
    simp only [compile] at h
    split at h
    · simp only [Option.some.injEq] at h; subst h; exact ⟨qs,a,b,rfl,rfl,by assumption,by assumption,by assumption⟩
    · simp at h
  | _ => simp [compile] at h
theorem compile_skip {P c} (h : compile P c = some .skip) : c = .skip := compile_inv h
theorem compile_ret {P c} (h : compile P c = some .ret) : c = .ret := compile_inv h
theorem compile_exit {P c id} (h : compile P c = some (.exit id)) : c = .exit id := compile_inv h
theorem compile_seq {P c x y} (h : compile P c = some (.seq x y)) : ∃ a b,c = .seq a b ∧ compile P a = some x ∧ compile P b = some y := compile_inv h
theorem compile_cond {P c o x y} (h : compile P c = some (.cond o x y)) : ∃ a b,c = .cond o a b ∧ opdOk P o = true ∧ compile P a = some x ∧ compile P b = some y := compile_inv h
theorem compile_block {P c id x} (h : compile P c = some (.block id x)) : ∃ a,c = .block id a ∧ compile P a = some x := compile_inv h
theorem compile_loop {P c x} (h : compile P c = some (.loop x)) : ∃ a,c = .loop a ∧ compile P a = some x := compile_inv h
theorem compile_scope {P c x} (h : compile P c = some (.scope x)) : ∃ a,c = .scope a ∧ compile P a = some x := compile_inv h
theorem compile_label {P c l} (h : compile P c = some (.label l)) : c = .label l := compile_inv h
theorem compile_rangeFunc {P c f ps x y} (h : compile P c = some (.rangeFunc f ps x y)) : ∃ qs a b,c = .rangeFunc f qs a b ∧ qs.toList = ps ∧ opdOk P f = true ∧ compile P a = some x ∧ compile P b = some y := compile_inv h
theorem compile_ops {P c l} (h : compile P c = some (.ops l)) : ∃ id ops,c = .region id ops false ∧ ops.toList.mapM (compileOper P ops) = some l := compile_inv h
theorem compile_drawF {P c fs ll} (h : compile P c = some (.drawF fs ll)) : ∃ id ops l,c = .region id ops true ∧ drawOk (hideOps ops) = true ∧ noV (hideOps ops) = true ∧ (holds ops).mapM (holdSize P ops) = some fs ∧ (hideOps ops).toList.mapM (compileOper P (hideOps ops)) = some l ∧ ll = l.zip (freeList (hideOps ops)) := compile_inv h
theorem compile_drawS {P c d n x ll} (h : compile P c = some (.drawS d n x ll)) : ∃ id ops l j t,c = .region id ops true ∧ lateOf ops = some (j,t,d,x) ∧ sizeAt P t = some n ∧ (hideAt ops j).toList.mapM (compileOper P (hideAt ops j)) = some l ∧ ll = l.zip (freeList (hideAt ops j)) := compile_inv h
theorem compile_draw {P c ll} (h : compile P c = some (.draw ll)) : ∃ id ops O l,c = .region id ops true ∧ (O = ops ∨ O = softOps ops) ∧ drawOk O = true ∧ O.toList.mapM (compileOper P O) = some l ∧ ll = l.zip (freeList O) := compile_inv h
section
variable {P : Program} {Q : AExit → Env → AHeap → Prop} {env : Env} {H : AHeap} {ar : Option Nat}
theorem awp_skip (h : Q .normal env H) : AWP P ar .skip Q env H := fun _ ro n base lo β w a code hc ho hi he hk => by
  rw [compile_skip hc]
  exact wpIn_skip ⟨.normal,env,H,β,rfl,h,hi,he,Post.refl β H w hi.dom,hk⟩
theorem awp_ret (h : Q .ret env H) : AWP P ar .ret Q env H := fun _ ro n base lo β w a code hc ho hi he hk => by
  rw [compile_ret hc]
  exact wpIn_ret ⟨.ret,env,H,β,rfl,h,hi,he,Post.refl β H w hi.dom,hk⟩
theorem awp_exit {id : Nat} (h : Q (.exit id) env H) : AWP P ar (.exit id) Q env H := fun _ ro n base lo β w a code hc ho hi he hk => by
  rw [compile_exit hc]
  exact wpIn_exit ⟨.exit id,env,H,β,rfl,h,hi,he,Post.refl β H w hi.dom,hk⟩
def Seq (K : Env → AHeap → Prop) (Q : AExit → Env → AHeap → Prop) : AExit → Env → AHeap → Prop
  | .normal,env,H => K env H
  | x,env,H => Q x env H
theorem awp_seq {x y : RCode} (h : AWP P ar x (Seq (AWP P ar y Q) Q) env H) : AWP P ar (.seq x y) Q env H := fun hm ro n base lo β w a code hc ho hi he hk => by
  obtain ⟨c1,c2,rfl,h1,h2⟩ := compile_seq hc
  refine wpIn_seq (wpIn_mono (h hm ro n base lo β w a c1 h1 ho hi he hk) fun e a' w' o => ?_)
  obtain ⟨x,env',H',β',rfl,hq,hi',he',hp,hk'⟩ := o
  cases x with
  | normal => exact wpIn_mono (hq hm ro n base lo β' w' a' c2 h2 (ho.mono (hp.le hi.dom)) hi' he' hk') fun e a'' w'' o => o.trans hi hp
  | exit id => exact ⟨.exit id,env',H',β',rfl,hq,hi',he',hp,hk'⟩
  | ret => exact ⟨.ret,env',H',β',rfl,hq,hi',he',hp,hk'⟩
theorem awp_cond {c : Operand} {x y : RCode} {b : Bool} (hb : evalA env c = .bool b) (ht : b = true → AWP P ar x Q env H) (hf : b = false → AWP P ar y Q env H) :
    AWP P ar (.cond c x y) Q env H := fun hm ro n base lo β w a code hc ho hi he hk => by
  obtain ⟨c1,c2,rfl,hx,h1,h2⟩ := compile_cond hc
  have e1 := eval_rel hi he hx
  rw [hb] at e1
  refine wpIn_cond_split e1.bool_inv (fun h => ?_) (fun h => ?_)
  · exact ht h hm ro n base lo β w a c1 h1 ho hi he hk
  · exact hf h hm ro n base lo β w a c2 h2 ho hi he hk
def InBlock (id : Nat) (Q : AExit → Env → AHeap → Prop) : AExit → Env → AHeap → Prop
  | .exit id',env,H => if id' = id then Q .normal env H else Q (.exit id') env H
  | x,env,H => Q x env H
theorem awp_block {id : Nat} {x : RCode} (h : AWP P ar x (InBlock id Q) env H) : AWP P ar (.block id x) Q env H := fun hm ro n base lo β w a code hc ho hi he hk => by
  obtain ⟨c1,rfl,h1⟩ := compile_block hc
  refine wpIn_block (wpIn_mono (h hm ro n base lo β w a c1 h1 ho hi he hk) fun e a' w' o => ?_)
  obtain ⟨x,env',H',β',rfl,hq,hi',he',hp,hk'⟩ := o
  cases x with
  | normal => exact ⟨.normal,env',H',β',rfl,hq,hi',he',hp,hk'⟩
  | exit id' =>
    simp only [InBlock] at hq
    show Exit.inBlock id _ (.exit id') a' w'
    simp only [Exit.inBlock]
    split at hq
    · rename_i e; rw [if_pos e]; exact ⟨.normal,env',H',β',rfl,hq,hi',he',hp,hk'⟩
    · rename_i e; rw [if_neg e]; exact ⟨.exit id',env',H',β',rfl,hq,hi',he',hp,hk'⟩
  | ret => exact ⟨.ret,env',H',β',rfl,hq,hi',he',hp,hk'⟩
theorem stepR_scope {P : Program} {b : Frame} {a : Act} {k : List Item} {cs : List Frame} {w : World} {c : Code} :
    Go.step P (lone (b.atR a (.code (.scope c) :: k)) cs w) = .next (lone (b.atR a (.code c :: .inScope c :: k)) cs w) :=
  step_lone_go (by simp [stepG,stepG.exec,Frame.atR])
theorem stepR_inScope {P : Program} {b : Frame} {a : Act} {k : List Item} {cs : List Frame} {w : World} {c : Code} :
    Go.step P (lone (b.atR a (.inScope c :: k)) cs w) = .next (lone (b.atR a k) cs w) :=
  step_lone_go (by simp [stepG,stepG.exec,Frame.atR])
theorem wpIn_scope {F : Fence} {n : Nat} {P : Program} {Q : Exit → Act → World → Prop} {a : Act} {w : World} {c : Code} (h : c.wpIn F n P Q a w) (hg : ∀ l a w,¬ Q (.goto l) a w) : (Code.scope c).wpIn F n P Q a w := by
  intro b k cs hro hb hr
  have h0 : (lone (b.atR a (.code (.scope c) :: k)) cs w).fenced P F := fenced_calm hb hr rfl
  obtain ⟨e,a₁,w₁,hq,harr⟩ := h b (.inScope c :: k) cs hro hb hr
  cases e with
  | normal => exact ⟨.normal,a₁,w₁,hq,.head h0 stepR_scope (StepsIn.trans harr (.one (fenced_calm hb hr rfl) stepR_inScope))⟩
  | exit id =>
    have hx : exitTo id (.inScope c :: k) = exitTo id k := by simp [exitTo]
    exact ⟨.exit id,a₁,w₁,hq,fun k' hk => .head h0 stepR_scope (harr.1 k' (by rw [hx]; exact hk)),
      fun hr' hk => let ⟨k₁,h1,h2⟩ := harr.2 hr' (by rw [hx]; exact hk); ⟨k₁,h1,.head h0 stepR_scope h2⟩⟩
  | goto l => exact (hg l a₁ w₁ hq).elim
  | ret => exact ⟨_,a₁,w₁,hq,.of_steps (.one h0 stepR_scope) harr⟩
  | panic ch => exact ⟨_,a₁,w₁,hq,.of_steps (.one h0 stepR_scope) harr⟩
  | outgrown => exact ⟨_,a₁,w₁,hq,.of_steps (.one h0 stepR_scope) harr⟩
theorem awp_scope {x : RCode} (h : AWP P ar x Q env H) : AWP P ar (.scope x) Q env H := fun hm ro n base lo β w a code hc ho hi he hk => by
  obtain ⟨c1,rfl,h1⟩ := compile_scope hc
  refine wpIn_scope (h hm ro n base lo β w a c1 h1 ho hi he hk) fun l a' w' o => ?_
  obtain ⟨x,env',H',β',hx,_⟩ := o
  cases x <;> cases hx
theorem awp_label {l : Nat} (h : Q .normal env H) : AWP P ar (.label l) Q env H := fun _ ro n base lo β w a code hc ho hi he hk => by
  rw [compile_label hc]
  exact wpIn_label ⟨.normal,env,H,β,rfl,h,hi,he,Post.refl β H w hi.dom,hk⟩
def forget : List Bool → Env → Env
  | true :: m,v :: env => v :: forget m env
  | false :: m,_ :: env => junk :: forget m env
  | [],env => env
  | _,[] => []
theorem forget_len : ∀ (m : List Bool) (env : Env),(forget m env).length = env.length
  | true :: m,v :: env => by simp [forget,forget_len m env]
  | false :: m,v :: env => by simp [forget,forget_len m env]
  | [],env => by simp [forget]
  | true :: _,[] => rfl
  | false :: _,[] => rfl
theorem forget_get : ∀ (m : List Bool) (env : Env) (i : Nat) (v : Value),(forget m env)[i]? = some v → v = junk ∨ env[i]? = some v
  | true :: m,u :: env,0,v,h => by simp [forget] at h; simp [h]
  | true :: m,u :: env,i + 1,v,h => by simp [forget] at h; simpa using forget_get m env i v h
  | false :: m,u :: env,0,v,h => by simp [forget] at h; exact .inl h.symm
  | false :: m,u :: env,i + 1,v,h => by simp [forget] at h; simpa using forget_get m env i v h
  | [],env,i,v,h => by simp [forget] at h; exact .inr h
  | true :: _,[],i,v,h => by simp [forget] at h
  | false :: _,[],i,v,h => by simp [forget] at h
theorem EnvRel.forget {β : Beta} {env : Env} {tmps : Array Value} (h : EnvRel β env tmps) (m : List Bool) : EnvRel β (forget m env) tmps :=
  ⟨by rw [forget_len]; exact h.1,fun i v v' h1 h2 => by
    rcases forget_get m env i v h1 with rfl | h3
    · exact .junk v'
    · exact h.2 i v v' h3 h2⟩
theorem awp_forget (m : List Bool) {R : RCode} (h : AWP P ar R Q (forget m env) H) : AWP P ar R Q env H :=
  fun hm ro n base lo β w a code hc ho hi he hk => h hm ro n base lo β w a code hc ho hi (he.forget m) hk
theorem wpIn_ghost {F : Fence} {rm : Nat} {Q : Exit → Act → World → Prop} {a : Act} {w : World} {c : Code} (I : Nat → Act → World → Prop) (n₀ : Nat) (h₀ : I n₀ a w)
    (round : ∀ n a w,I n a w → c.wpIn F rm P (Exit.then (fun a' w' => ∃ n',n' < n ∧ I n' a' w') Q) a w) : (Code.loop c).wpIn F rm P Q a w := by
  refine wpIn_loop (fun a w => ∃ n,I n a w) (fun a w => leastOf (fun n => I n a w)) ⟨n₀,h₀⟩ ?_
  intro a w hI
  refine wpIn_mono (round _ a w (leastOf_spec hI).1) ?_
  intro e a' w' hq
  cases e with
  | normal =>
    obtain ⟨n',hlt,hI'⟩ := hq
    exact show (∃ n,I n a' w') ∧ leastOf (fun n => I n a' w') < leastOf (fun n => I n a w) from ⟨⟨n',hI'⟩,Nat.lt_of_le_of_lt ((leastOf_spec ⟨n',hI'⟩).2 n' hI') hlt⟩
  | exit id => exact hq
  | goto l => exact hq
  | ret => exact hq
  | panic ch => exact hq
  | outgrown => exact hq
theorem awp_loop {x : RCode} (m : List Bool) (I : Nat → Env → AHeap → Prop) (k₀ : Nat) (h₀ : I k₀ (forget m env) H)
    (hr : ∀ k env H,I k env H → AWP P ar x (Seq (fun env' H' => ∃ k',k' < k ∧ I k' (forget m env') H') Q) env H) : AWP P ar (.loop x) Q env H := fun hm ro n base lo β w a code hc ho hi he hk => by
  obtain ⟨c1,rfl,h1⟩ := compile_loop hc
  refine wpIn_ghost (fun k a' w' => ∃ env' H' β',I k (forget m env') H' ∧ Inj P β' H' base w' ∧ EnvRel β' env' a'.tmps ∧ Post β H w β' H' w' ∧ Marks lo a'.defers w') k₀
    ⟨env,H,β,h₀,hi,he,Post.refl β H w hi.dom,hk⟩ fun k a' w' hI => ?_
  obtain ⟨env',H',β',hI,hi',he',hp,hk'⟩ := hI
  refine wpIn_mono (hr k _ H' hI hm ro n base lo β' w' a' c1 h1 (ho.mono (hp.le hi.dom)) hi' (he'.forget m) hk') fun e a'' w'' o => ?_
  obtain ⟨y,env'',H'',β'',rfl,hq,hi'',he'',hp'',hk''⟩ := o
  cases y with
  | normal =>
    obtain ⟨k',hlt,hI'⟩ := hq
    exact ⟨k',hlt,env'',H'',β'',hI',hi'',he'',hp.trans hi.dom hp'',hk''⟩
  | exit id => exact ⟨.exit id,env'',H'',β'',rfl,hq,hi'',he'',hp.trans hi.dom hp'',hk''⟩
  | ret => exact ⟨.ret,env'',H'',β'',rfl,hq,hi'',he'',hp.trans hi.dom hp'',hk''⟩
end
end Go.Lq

namespace Go.Lq
open Go
def AOp (P : Program) (r : ROp) (env : Env) (H : AHeap) (K : Value → AHeap → Prop) : Prop :=
  match r with
  | .call f args => AInvoke P (evalA env f) (args.map (evalA env)) H K
  | r => ∃ v H',ropRun r (evalA env) H = some (v,H') ∧ K v H'
def wantedA (g : Option (Nat × Bool)) (env : Env) : Option Bool :=
  match g with
  | none => some true
  | some (s,want) => match env[s]? with | some (.bool b) => some (b == want) | some (.tuple _) => some false | _ => none
def AOps (P : Program) : List ROper → (Env → AHeap → Prop) → Env → AHeap → Prop
  | [],K,env,H => K env H
  | o :: rest,K,env,H => ∃ b,wantedA o.guard env = some b ∧ (b = true → AOp P o.op env H fun v H' => AOps P rest K (env.put o.dst v) H') ∧
      (b = false → AOps P rest K (env.put o.dst undef) H)
theorem EnvRel.mono {β β' : Beta} {env : Env} {tmps : Array Value} (h : β.le β') (he : EnvRel β env tmps) : EnvRel β' env tmps := VRs.mono h he
theorem vr_undef (β : Beta) : VR β undef undef := .tuple rfl fun i v v' a _ => by simp at a
theorem wanted_rel {P : Program} {ops : Array Oper} {β env} {a : Act} {o : Oper} {r : ROper} {b : Bool} (he : EnvRel β env a.tmps) (hc : compileOper P ops o = some r)
    (hw : wantedA r.guard env = some b) : Region.wanted o (yielded ops a.tmps) = b := by
  unfold compileOper at hc
  unfold Region.wanted
  split at hc
  · rename_i hg
    cases hc
    rw [hg]
    simpa [wantedA] using hw
  · rename_i j want hg
    simp only [Option.map_eq_some_iff] at hc
    obtain ⟨s,hs,rfl⟩ := hc
    rw [hg]
    simp only [wantedA] at hw
    have hy : yielded ops a.tmps j = match a.tmps[s]? with | some (.bool b) => some b | _ => none := by
      unfold yielded; rw [hs]; rfl
    simp only [hy]
    have hlen : env.length = a.tmps.toList.length := he.1
    split at hw
    · rename_i b' hb
      have hlt : s < a.tmps.toList.length := by rw [← hlen]; exact (List.getElem?_eq_some_iff.1 hb).1
      have h2 : a.tmps.toList[s]? = some a.tmps.toList[s] := List.getElem?_eq_getElem hlt
      have h3 := he.2 s _ _ hb h2
      have h4 := h3.bool_inv
      have h5 : a.tmps[s]? = some (.bool b') := by rw [← h4,← h2]; simp
      rw [h5]
      simp only [Option.some.injEq] at hw
      rw [← hw]; cases b' <;> cases want <;> rfl
    · rename_i xs hb
      have hlt : s < a.tmps.toList.length := by rw [← hlen]; exact (List.getElem?_eq_some_iff.1 hb).1
      have h2 : a.tmps.toList[s]? = some a.tmps.toList[s] := List.getElem?_eq_getElem hlt
      have h3 := he.2 s _ _ hb h2
      have h5 : a.tmps[s]? = some a.tmps.toList[s] := by rw [← h2]; simp
      rw [h5]
      generalize a.tmps.toList[s] = cv at *
      cases h3
      simp only [Option.some.injEq] at hw
      rw [← hw]; rfl
    · cases hw
theorem opOf_call {P : Program} {op : Op} {f : Operand} {args : List Operand} (h : opOf P op = .call f args) :
    ∃ c,op = .call c ∧ c.callee = .value f ∧ c.args.toList = args ∧ opdOk P f = true ∧ ∀ x ∈ args,opdOk P x = true := by
  unfold opOf at h
  split at h
  · rename_i hok
    cases hc : compileOp P op with
    | none => rw [hc] at h; cases h
    | some r =>
      rw [hc] at h
      replace h : r = .call f args := h
      subst h
      cases op with
      | call c =>
        refine ⟨c,rfl,?_⟩
        simp only [compileOp] at hc
        split at hc
        · rename_i b hb
          exfalso
          unfold compileBuiltin at hc
          (repeat' split at hc) <;> first | cases hc | (simp at hc; done) | skip
        · rename_i f' hf
          cases hc
          refine ⟨hf,rfl,?_,?_⟩
          · refine List.all_eq_true.1 hok f ?_
            simp [Op.operands,Call.operands,hf]
          · intro x hx
            refine List.all_eq_true.1 hok x ?_
            simp [Op.operands,Call.operands,hf]
            exact .inr (by simpa using hx)
        · cases hc
      | _ => exfalso; simp only [compileOp] at hc; (repeat' split at hc) <;> first | contradiction | cases hc | (simp at hc; done) | (obtain ⟨ls,hh⟩ := eqlAgg_form hc; cases hh) | (obtain ⟨n,g,hh,_⟩ := arrOp_form hc; cases hh) | skip
  · cases h
theorem opOf_defer {P : Program} {op : Op} {c : Call} (h : op = .defer c) : opOf P op = .extract (.const junk) 0 := by
  subst h
  unfold opOf
  split <;> rfl
theorem opOf_select {P : Program} {op : Op} {cs b} (h : op = .select cs b) : opOf P op = .extract (.const junk) 0 := by
  subst h
  unfold opOf
  split <;> rfl
theorem VRs.ofArray {β : Beta} {xs xs' : Array Value} (hx : xs.size = xs'.size) (h : ∀ (i : Nat) (v v' : Value),xs[i]? = some v → xs'[i]? = some v' → VR β v v') : VRs β xs.toList xs'.toList :=
  ⟨by simpa using hx,fun i v v' e1 e2 => h i v v' (by simpa using e1) (by simpa using e2)⟩
theorem invoke_sound {P : Program} {β : Beta} {H : AHeap} {base : Nat} {w : World} {ro : Option Nat} {n : Nat} {o : Oper} {a : Act} {next : Act → World → Prop} {Q : Exit → Act → World → Prop}
    {K : Value → AHeap → Prop} {fv fv' : Value} {args : List Value} {cargs : Array Value} (hi : Inj P β H base w) (hf : VR β fv fv') (ha : VRs β args cargs.toList)
    (h : AInvoke P fv args H K) (hn : ∀ v cv β' H' w',K v H' → VR β' v cv → Inj P β' H' base w' → Post β H w β' H' w' → next (a.put o.dst cv) w') :
    ∃ d,(Deferred.ofValue fv' cargs).run P w = .ok d w ∧ o.uponIn (wideF ro) n P a next Q ((invoke d.target d.args).run P w) := by
  unfold AInvoke at h
  split at h
  · rename_i f xs ys
    cases hf with
    | func hfn hx hy h1 h2 =>
    rename_i fn' xs' ys'
    cases hfn
    refine ⟨{ target := .fn (.func f) ys',args := xs' ++ cargs },rfl,?_⟩
    obtain ⟨⟨fn,e1,e2,e3⟩,hcall⟩ := h
    obtain ⟨c,hc⟩ := Option.isSome_iff_exists.1 e2
    have hrun : (invoke (.fn (.func f) ys') (xs' ++ cargs)).run P w = .ok (.enter f (xs' ++ cargs ++ ys')) w := by
      simp only [invoke]
      have h1 : fn.name ≠ "runtime.NumGoroutine" := by simpa using e3
      simp [callFunc,e1,h1,hc]
    simp only [hrun,Oper.uponIn]
    refine ⟨fun hd => (by cases hd),callsIn_wideF.2 ?_⟩
    have hrel : VRs β (xs.toList ++ args ++ ys.toList) (xs' ++ cargs ++ ys').toList := by
      simp only [Array.toList_append]
      exact ((VRs.ofArray hx h1).append ha).append (VRs.ofArray hy h2)
    refine (hcall base β w _ hi hrel).mono fun e w'' hb => ?_
    obtain ⟨v,cv,β',H',rfl,hq,hv,hi',hp⟩ := hb
    exact hn v cv β' H' w'' hq hv hi' hp
  · rename_i l xs ys
    cases hf with
    | func hfn hx hy h1 h2 =>
    rename_i fn' xs' ys'
    cases hfn with
    | yield hl h0 =>
    rename_i p
    refine ⟨{ target := .fn (.yield p.b) ys',args := xs' ++ cargs },rfl,?_⟩
    have hrel : VRs β (xs.toList ++ args) (xs' ++ cargs).toList := by
      simp only [Array.toList_append]
      exact (VRs.ofArray hx h1).append ha
    obtain ⟨f,tmps,assign,body,hr,hround⟩ := h base β w _ p hi hl hrel
    have hrun : (invoke (.fn (.yield p.b) ys') (xs' ++ cargs)).run P w = .ok (.round p.b f tmps assign body) w := hr
    simp only [hrun,Oper.uponIn]
    refine ⟨fun hd => (by cases hd),(hround ro (n - 1)).mono fun e w'' hb => ?_⟩
    obtain ⟨v,cv,β',H',rfl,hq,hv,hi',hp⟩ := hb
    exact hn v cv β' H' w'' hq hv hi' hp
  · exact h.elim
theorem nodefer {P : Program} {op : Op} {env H K} (h : AOp P (opOf P op) env H K) : (∀ c,op ≠ .defer c) ∧ ∀ cs b,op ≠ .select cs b := by
  refine ⟨fun c hc => ?_,fun cs b hc => ?_⟩
  · rw [opOf_defer hc] at h; obtain ⟨v,H',h1,_⟩ := h; simp [ropRun,evalA,junk] at h1
  · rw [opOf_select hc] at h; obtain ⟨v,H',h1,_⟩ := h; simp [ropRun,evalA,junk] at h1
theorem oper_sound {P : Program} {β : Beta} {H : AHeap} {base : Nat} {w : World} {ro : Option Nat} {n : Nat} {o : Oper} {env : Env} {a : Act} {next : Act → World → Prop} {Q : Exit → Act → World → Prop}
    {K : Value → AHeap → Prop} (hi : Inj P β H base w) (he : EnvRel β env a.tmps) (h : AOp P (opOf P o.op) env H K)
    (hn : ∀ v cv β' H' w',K v H' → VR β' v cv → Inj P β' H' base w' → Post β H w β' H' w' → next (a.put o.dst cv) w') :
    o.wpIn (wideF ro) n P a w next Q := by
  refine ⟨fun f _ => wideF_fn ro f,?_⟩
  rw [Oper.semAt_eq _ _ _ (nodefer h).1]
  unfold AOp at h
  split at h
  · rename_i f args hop
    obtain ⟨c,hc,hcal,hargs,hf,hx⟩ := opOf_call hop
    have hfv := eval_rel hi he hf
    have hav : VRs β (args.map (evalA env)) (c.args.map a.eval).toList := by
      rw [Array.toList_map,hargs]; exact evals_rel hi he hx
    obtain ⟨d,h1,h2⟩ := invoke_sound (ro := ro) (n := n) (o := o) (a := a) (next := next) (Q := Q) hi hfv hav h hn
    have : (execOp a.eval o).run P w = (invoke d.target d.args).run P w := by
      simp only [execOp,hc,resolve,hcal,Sem.run_bind,h1,Result.andThen]
    rw [this]
    exact h2
  · rename_i hne
    obtain ⟨v,H',hr,hk⟩ := h
    obtain ⟨cv,w',β',he',hv,hi',hp⟩ := op_sim hi he hr
    rcases he' with he' | ⟨he',rfl⟩
    · rw [he']; exact hn v cv β' H' w' hk hv hi' hp
    · rw [he']; exact hn v undef β' H' w' hk hv hi' hp
theorem mapM_cons_some {α γ : Type} {f : α → Option γ} {x : α} {xs : List α} {l : List γ} (h : (x :: xs).mapM f = some l) : ∃ y ys,f x = some y ∧ xs.mapM f = some ys ∧ l = y :: ys := by
  simp only [List.mapM_cons,Option.bind_eq_bind,Option.bind_eq_some_iff,Option.pure_def,Option.some.injEq] at h
  obtain ⟨y,h1,ys,h2,rfl⟩ := h
  exact ⟨y,ys,h1,h2,rfl⟩
theorem compileOper_eq {P : Program} {ops : Array Oper} {o : Oper} {r : ROper} (h : compileOper P ops o = some r) : r.dst = o.dst ∧ r.op = opOf P o.op := by
  unfold compileOper at h
  split at h
  · cases h; exact ⟨rfl,rfl⟩
  · simp only [Option.map_eq_some_iff] at h
    obtain ⟨s,_,rfl⟩ := h
    exact ⟨rfl,rfl⟩
theorem Marks.put {lo : Nat} {a : Act} {dst : Option Tmp} {v : Value} {w : World} (h : Marks lo a.defers w) : Marks lo (a.put dst v).defers w := by
  cases dst <;> exact h
theorem ops_sound {P : Program} {ops : Array Oper} {base lo : Nat} {β₀ : Beta} {H₀ : AHeap} {w₀ : World} (hi₀ : Inj P β₀ H₀ base w₀) {ro : Option Nat} {n : Nat} {Q : AExit → Env → AHeap → Prop} :
    ∀ (l : List Oper) (rs : List ROper),l.mapM (compileOper P ops) = some rs → ∀ (β : Beta) (H : AHeap) (w : World) (env : Env) (a : Act),Inj P β H base w → EnvRel β env a.tmps → Marks lo a.defers w →
      Post β₀ H₀ w₀ β H w → AOps P rs (Q .normal) env H → wpListIn (wideF ro) n P ops (Out P lo β₀ H₀ base w₀ Q) l a w
  | [],rs,hc,β,H,w,env,a,hi,he,hk,hp,h => by
    simp at hc; subst hc
    exact ⟨.normal,env,H,β,rfl,h,hi,he,hp,hk⟩
  | o :: l,rs,hc,β,H,w,env,a,hi,he,hk,hp,h => by
    obtain ⟨r,rs',hr,hrs,rfl⟩ := mapM_cons_some hc
    obtain ⟨hdst,hop⟩ := compileOper_eq hr
    obtain ⟨b,hb,ht,hf⟩ := h
    have hw := wanted_rel he hr hb
    simp only [wpListIn]
    cases b with
    | true =>
      rw [if_pos hw]
      have ht := ht rfl
      rw [hop] at ht
      refine oper_sound hi he ht fun v cv β' H' w' hK hv hi' hp' => ?_
      rw [hdst] at hK
      exact ops_sound hi₀ l rs' hrs β' H' w' _ _ hi' (EnvRel.put (EnvRel.mono (hp'.le hi.dom) he) o.dst hv) ((hk.step hi hp').put) (hp.trans hi₀.dom hp') hK
    | false =>
      rw [if_neg (by rw [hw]; simp)]
      have hf := hf rfl
      rw [hdst] at hf
      exact ⟨fun f _ => wideF_fn ro f,ops_sound hi₀ l rs' hrs β H w _ _ hi (he.put o.dst (vr_undef β)) hk.put hp hf⟩
theorem awp_ops {P : Program} {ar : Option Nat} {l : List ROper} {Q : AExit → Env → AHeap → Prop} {env : Env} {H : AHeap} (h : AOps P l (Q .normal) env H) : AWP P ar (.ops l) Q env H :=
  fun _ ro n base lo β w a code hc _ hi he hk => by
    obtain ⟨id,ops,rfl,h1⟩ := compile_ops hc
    exact wpIn_region_list (ops_sound hi ops.toList l h1 β H w env a hi he hk (Post.refl β H w hi.dom) h)
end Go.Lq

namespace Go.Lq
open Go
def ropWrites : ROp → Bool | .store _ _ _ | .append _ _ _ _ | .copy _ _ _ | .mapPut _ _ _ _ => true | _ => false
def ropLays : ROp → Bool | .appendF _ _ _ _ | .new _ | .box _ | .buildSlice _ _ _ _ | .mkSlice _ _ _ _ | .makeMap | .bytesS _ | .call _ _ => true | _ => false
def ropLoads : ROp → Bool | .load _ | .loadN _ _ | .mapGet _ _ _ _ _ | .byteS _ => true | _ => false
def ropOps : ROp → List Operand
  | .mov x | .box x | .load x | .loadN _ x | .nilCheck x | .not x | .neg x | .conv _ x | .fieldAddr _ x | .field _ x | .fieldN _ _ x | .len x | .lenS x | .arrS _ x | .byteS x | .bytesS x | .extract x _ | .iface _ x => [x]
  | .pick c a b => [c,a,b]
  | .new _ | .makeMap => []
  | .build _ ps | .buildSlice _ _ _ ps => ps.map (·.2.2)
  | .store _ x y | .arith _ x y | .cmp _ x y | .eqv _ _ x y | .eqAgg _ _ x y | .mkSlice _ _ x y | .idxAddr _ x y | .idxAddrA _ _ x y | .idxA _ x y | .idxAN _ _ x y
  | .append _ _ x y | .appendF _ _ x y | .copy _ x y | .mapGet _ _ _ x y | .band x y | .shr x y | .bor x y | .shl x y | .idxS x y | .strOp _ x y => [x,y]
  | .sliceS x lo hi => x :: (lo.toList ++ hi.toList)
  | .most _ x xs => x :: xs
  | .mapPut _ m k x => [m,k,x]
  | .mkFunc _ xs ys => xs ++ ys
  | .slice _ x lo hi mx => x :: (lo.toList ++ hi.toList ++ mx.toList)
  | .call f args => f :: args
theorem ropRun_congr {r : ROp} {ρ ρ' : Operand → Value} {H : AHeap} (h : ∀ x ∈ ropOps r,ρ x = ρ' x) : ropRun r ρ H = ropRun r ρ' H := by
  have parts : ∀ ps : List (Nat × Nat × Operand),(∀ x ∈ ps.map (·.2.2),ρ x = ρ' x) → (ps.map fun (o,s,x) => (o,s,ρ x)) = ps.map fun (o,s,x) => (o,s,ρ' x) := fun ps hp =>
    List.map_congr_left fun q hq => by
      obtain ⟨o,s,x⟩ := q
      simp only [hp x (List.mem_map.2 ⟨_,hq,rfl⟩)]
  have maps : ∀ xs : List Operand,(∀ x ∈ xs,ρ x = ρ' x) → xs.map ρ = xs.map ρ' := fun xs hx => List.map_congr_left hx
  have opts : ∀ x : Option Operand,(∀ y ∈ x.toList,ρ y = ρ' y) → x.map ρ = x.map ρ' := fun x hx => by
    cases x with
    | none => rfl
    | some y => simp [hx y (by simp)]
  cases r with
  | build z ps => simp only [ropRun,parts ps h]
  | buildSlice a b z ps => simp only [ropRun,parts ps h]
  | mkFunc fn xs ys => simp only [ropRun,maps xs fun x hx => h x (by simp [ropOps,hx]),maps ys fun x hx => h x (by simp [ropOps,hx])]
  | slice n x lo hi mx =>
    have h0 := h x (by simp [ropOps])
    simp only [ropRun,h0,opts lo fun y hy => h y (by simp [ropOps]; simp at hy; exact .inr (.inl hy)),opts hi fun y hy => h y (by simp [ropOps]; simp at hy; exact .inr (.inr (.inl hy))),
      opts mx fun y hy => h y (by simp [ropOps]; simp at hy; exact .inr (.inr (.inr hy)))]
  | sliceS x lo hi =>
    have h0 := h x (by simp [ropOps])
    simp only [ropRun,h0,opts lo fun y hy => h y (by simp [ropOps]; simp at hy; exact .inr (.inl hy)),opts hi fun y hy => h y (by simp [ropOps]; simp at hy; exact .inr (.inr hy))]
  | new z => rfl
  | makeMap => rfl
  | call f args => rfl
  | most mx x xs =>
    have h0 := h x (by simp [ropOps])
    simp only [ropRun,h0,maps xs fun y hy => h y (by simp [ropOps,hy])]
  | _ => simp only [ropOps,List.mem_cons,List.not_mem_nil,or_false,forall_eq_or_imp,forall_eq] at h; simp only [ropRun,h]
theorem partsAt_ops {pl : Nat → Option (Nat × Nat)} : ∀ {parts : List (Nat × Operand)} {ps},partsAt pl parts = some ps → ps.map (·.2.2) = parts.map (·.2)
  | [],ps,h => by simp [partsAt] at h; subst h; rfl
  | (i,x) :: parts,ps,h => by
    obtain ⟨y,ys,h1,h2,rfl⟩ := mapM_cons_some h
    simp only [Option.map_eq_some_iff] at h1
    obtain ⟨⟨o,s⟩,_,rfl⟩ := h1
    simp [partsAt_ops (parts := parts) h2]
structure Formed (op : Op) (r : ROp) : Prop where
  writes : ropWrites r = true → Lq.writes op = true
  lays : ropLays r = true → Lq.lays op = true
  loads : ropLoads r = true → Lq.loads op = true
  ops : ∀ x ∈ ropOps r,x ∈ op.operands.toList
theorem formed_builtin {P : Program} {b : Builtin} {c : Call} {r : ROp} (hb : c.callee = .builtin b) (h : compileBuiltin P b c.argTypes.toList c.args.toList = some r) : Formed (.call c) r := by
  have hops : ∀ x ∈ c.args.toList,x ∈ (Op.call c).operands.toList := fun x hx => by
    simp [Op.operands,Call.operands,hb]; simpa using hx
  have hw : (b = .append ∧ c.argTypes.toList.length ≠ 3) ∨ b = .copy → Lq.writes (.call c) = true := fun h => by
    rcases h with ⟨rfl,h⟩ | rfl <;> simp_all [Lq.writes]
  have hll : b = .append ∧ c.argTypes.toList.length = 3 → Lq.lays (.call c) = true := fun h => by
    obtain ⟨rfl,h⟩ := h
    simp_all [Lq.lays]
  unfold compileBuiltin at h
  generalize c.argTypes.toList = ts at *
  generalize c.args.toList = args at *
  (repeat' split at h)
  all_goals try (simp only [Option.some.injEq,Option.map_eq_some_iff,reduceCtorEq] at h)
  all_goals try (obtain ⟨n,_,h⟩ := h)
  all_goals try contradiction
  all_goals try subst h
  all_goals exact ⟨fun k => by first | (simp [ropWrites] at k; done) | exact hw (.inl ⟨rfl,by simp⟩) | exact hw (.inr rfl),fun k => by first | (simp [ropLays] at k; done) | exact hll ⟨rfl,by simp⟩,fun k => by simp [ropLoads] at k,
    fun x hx => hops x (by simpa [ropOps] using hx)⟩
theorem formed {P : Program} {op : Op} {r : ROp} (h : compileOp P op = some r) : Formed op r := by
  cases op with
  | call c =>
    simp only [compileOp] at h
    split at h
    · rename_i b hb; exact formed_builtin hb h
    · rename_i f hf
      cases h
      exact ⟨fun k => by simp [ropWrites] at k,fun _ => by simp [Lq.lays,hf],fun k => by simp [ropLoads] at k,fun x hx => by simpa [Op.operands,Call.operands,hf,ropOps] using hx⟩
    · cases h
  | build t parts =>
    simp only [compileOp] at h
    (repeat' split at h) <;> try (simp at h; done)
    all_goals
      simp only [Option.map_eq_some_iff] at h
      obtain ⟨ps,h1,rfl⟩ := h
      exact ⟨fun k => by simp [ropWrites] at k,fun k => by simp [ropLays] at k,fun k => by simp [ropLoads] at k,fun x hx => by
        simp only [ropOps,partsAt_ops h1] at hx; simpa [Op.operands] using hx⟩
  | buildSlice t len parts =>
    simp only [compileOp] at h
    (repeat' split at h) <;> try (simp at h; done)
    all_goals try simp only [Option.map_eq_some_iff,Option.some.injEq] at h
    · obtain ⟨ps,h1,rfl⟩ := h
      exact ⟨fun k => by simp [ropWrites] at k,fun k => by simp [Lq.lays],fun k => by simp [ropLoads] at k,fun x hx => by
        simp only [ropOps,partsAt_ops h1] at hx; simpa [Op.operands] using hx⟩
    · subst h
      exact ⟨fun k => by simp [ropWrites] at k,fun k => by simp [Lq.lays],fun k => by simp [ropLoads] at k,fun x hx => by simp [ropOps] at hx⟩
  | unOp op t x =>
    cases op <;> simp [compileOp] at h
    all_goals subst h
    all_goals exact ⟨fun k => by simp [ropWrites] at k,fun k => by simp [ropLays] at k,fun k => by simp [ropLoads] at k,fun x hx => by simpa [ropOps,Op.operands] using hx⟩
  | _ =>
    simp only [compileOp] at h
    (repeat' split at h) <;> try (simp at h; done)
    all_goals try (exfalso; contradiction)
    all_goals try replace h := eqlAgg_form h
    all_goals try (obtain ⟨nn,gg,h2,hx0⟩ := arrOp_form h; subst hx0; clear h; rename r = _ => h)
    all_goals try simp only [Option.some.injEq,Option.map_eq_some_iff] at h
    all_goals try (obtain ⟨n,_,h⟩ := h)
    all_goals try (obtain ⟨n,h⟩ := h)
    all_goals try subst h
    all_goals exact ⟨fun k => by first | rfl | (simp [ropWrites] at k; done) ,fun k => by first | rfl | (simp [ropLays] at k; done),fun k => by first | rfl | (simp [ropLoads] at k; done),fun x hx => by
      first | (simp [ropOps] at hx; done) | simpa [ropOps,Op.operands] using hx | (simp [ropOps] at hx; simp [Op.operands,hx])⟩
theorem formed_opOf {P : Program} (op : Op) : (∃ r,opOf P op = r ∧ Formed op r) ∨ opOf P op = .extract (.const junk) 0 := by
  unfold opOf
  split
  · cases hc : compileOp P op with
    | none => exact .inr rfl
    | some r => exact .inl ⟨r,rfl,formed hc⟩
  · exact .inr rfl
theorem fail_run {ρ : Operand → Value} {H : AHeap} (hj : ρ (.const junk) = junk) : ropRun (.extract (.const junk) 0) ρ H = none := by
  simp [ropRun,hj,junk]
theorem ropRun_grow {r : ROp} {ρ : Operand → Value} {H H' : AHeap} {v : Value} (hw : ropWrites r = false) (h : ropRun r ρ H = some (v,H')) : ∃ N,H' = H ++ N := by
  have base : H' = H → ∃ N,H' = H ++ N := fun e => ⟨[],by simp [e]⟩
  cases r with
  | store n a x => cases hw
  | append a b c d => cases hw
  | copy a b c => cases hw
  | mapPut a b c d => cases hw
  | makeMap => simp only [ropRun,Option.some.injEq,Prod.mk.injEq] at h; exact ⟨_,h.2.symm⟩
  | appendF a b c d =>
    simp only [ropRun,appendF] at h
    split at h
    · rename_i hf
      generalize ρ c = s at h hf
      generalize ρ d = x at h
      unfold fullS at hf
      unfold appendA at h
      (repeat' split at h) <;> first
        | (cases h; done)
        | (simp only [Option.some.injEq,Prod.mk.injEq] at h; exact base h.2.symm)
        | (simp only [Option.some.injEq,Prod.mk.injEq] at h; exact ⟨_,h.2.symm⟩)
        | (split at hf <;> simp_all)
    · (repeat' split at h) <;> first
        | (cases h; done)
        | (simp only [Option.some.injEq,Prod.mk.injEq] at h; exact ⟨_,h.2.symm⟩)
  | _ =>
    simp only [ropRun] at h
    first
      | (simp only [Option.some.injEq,Prod.mk.injEq] at h; exact base h.2.symm)
      | (cases h; done)
      | ((repeat' split at h) <;> first
          | (cases h; done)
          | (simp only [Option.some.injEq,Prod.mk.injEq] at h; exact base h.2.symm)
          | (simp only [Option.some.injEq,Prod.mk.injEq] at h; exact ⟨_,h.2.symm⟩)
          | (simp only [Option.map_eq_some_iff,Prod.mk.injEq] at h; obtain ⟨_,_,_,h2⟩ := h; exact base h2.symm))
theorem ropRun_still {r : ROp} {ρ : Operand → Value} {H H' : AHeap} {v : Value} (hw : ropWrites r = false) (hl : ropLays r = false) (h : ropRun r ρ H = some (v,H')) : H' = H := by
  cases r with
  | store n a x => cases hw
  | append a b c d => cases hw
  | copy a b c => cases hw
  | mapPut a b c d => cases hw
  | new z => cases hl
  | box x => cases hl
  | buildSlice a b c d => cases hl
  | mkSlice a b c d => cases hl
  | bytesS x => cases hl
  | makeMap => cases hl
  | appendF a b c d => cases hl
  | call f args => cases hl
  | _ =>
    simp only [ropRun] at h
    first
      | (simp only [Option.some.injEq,Prod.mk.injEq] at h; exact h.2.symm)
      | (cases h; done)
      | ((repeat' split at h) <;> first
          | (cases h; done)
          | (simp only [Option.some.injEq,Prod.mk.injEq] at h; exact h.2.symm)
          | (simp only [Option.map_eq_some_iff,Prod.mk.injEq] at h; obtain ⟨_,_,_,h2⟩ := h; exact h2.symm))
theorem ropRun_any {r : ROp} {ρ : Operand → Value} {H H' G : AHeap} {v : Value} (hw : ropWrites r = false) (hl : ropLays r = false) (hr : ropLoads r = false) (h : ropRun r ρ H = some (v,H')) :
    ropRun r ρ G = some (v,G) := by
  cases r with
  | store n a x => cases hw
  | append a b c d => cases hw
  | copy a b c => cases hw
  | mapPut a b c d => cases hw
  | new z => cases hl
  | box x => cases hl
  | buildSlice a b c d => cases hl
  | mkSlice a b c d => cases hl
  | bytesS x => cases hl
  | makeMap => cases hl
  | appendF a b c d => cases hl
  | call f args => cases hl
  | load x => cases hr
  | loadN n x => cases hr
  | mapGet a b c d e => cases hr
  | byteS x => cases hr
  | eqv k n x y => simp only [ropRun,Option.map_eq_some_iff,Prod.mk.injEq] at h ⊢; obtain ⟨b,h1,h2,_⟩ := h; exact ⟨b,h1,h2,trivial⟩
  | eqAgg neg ls x y =>
    simp only [ropRun] at h ⊢
    split at h
    · simp only [Option.map_eq_some_iff,Prod.mk.injEq] at h ⊢; obtain ⟨b,h1,h2,_⟩ := h; exact ⟨b,h1,h2,trivial⟩
    · cases h
  | _ =>
    simp only [ropRun] at h ⊢
    first
      | (simp only [Option.some.injEq,Prod.mk.injEq] at h ⊢; exact ⟨h.1,trivial⟩)
      | (cases h; done)
      | ((repeat' split at h) <;> first
          | (cases h; done)
          | (simp_all; done)
          | (simp_all; obtain ⟨y,h1,rfl,_⟩ := h; first | exact h1 | exact ⟨y,h1,rfl⟩))
end Go.Lq

namespace Go.Lq
open Go
def AStep (P : Program) (free : Bool) (r : ROp) (B : AHeap) (env : Env) (H : AHeap) (v : Value) (H' : AHeap) : Prop :=
  match r with
  | .call f args =>
    if free then H' = H ∧ ∀ G,(∃ N,G = B ++ N) → AInvoke P (evalA env f) (args.map (evalA env)) G fun v1 H1 => v1 = v ∧ H1 = G
    else (∃ N,H' = H ++ N) ∧ AInvoke P (evalA env f) (args.map (evalA env)) H fun v1 H1 => v1 = v ∧ H1 = H'
  | r => ropRun r (evalA env) H = some (v,H')
def isVR : ROp → Bool | .call (.tmp _) _ => true | _ => false
def ADraw (P : Program) : List (ROper × Bool) → AHeap → (Env → AHeap → Prop) → Env → AHeap → Prop
  | [],_,K,env,H => K env H
  | (o,fr) :: rest,B,K,env,H => if (isVR o.op && fr) = true then AOps P (o :: rest.map (·.1)) K env H else ∃ b,wantedA o.guard env = some b ∧
      (b = true → ∃ v H',AStep P fr o.op B env H v H' ∧ ADraw P rest (if ropWrites o.op then H' else B) K (env.put o.dst v) H') ∧
      (b = false → ADraw P rest B K (env.put o.dst undef) H)
theorem adraw_n {P : Program} {o : ROper} {fr : Bool} {rest : List (ROper × Bool)} {B : AHeap} {K : Env → AHeap → Prop} {env : Env} {H : AHeap} (hv : (isVR o.op && fr) = false) :
    ADraw P ((o,fr) :: rest) B K env H = ∃ b,wantedA o.guard env = some b ∧
      (b = true → ∃ v H',AStep P fr o.op B env H v H' ∧ ADraw P rest (if ropWrites o.op then H' else B) K (env.put o.dst v) H') ∧
      (b = false → ADraw P rest B K (env.put o.dst undef) H) := by
  rw [ADraw,if_neg (by rw [hv]; exact Bool.false_ne_true)]
theorem adraw_v {P : Program} {o : ROper} {fr : Bool} {rest : List (ROper × Bool)} {B : AHeap} {K : Env → AHeap → Prop} {env : Env} {H : AHeap} (hv : (isVR o.op && fr) = true) :
    ADraw P ((o,fr) :: rest) B K env H = AOps P (o :: rest.map (·.1)) K env H := by
  rw [ADraw,if_pos hv]
def vix : List (ROper × Bool) → Nat
  | [] => 0
  | (o,fr) :: rest => if (isVR o.op && fr) = true then 0 else vix rest + 1
theorem vix_le : ∀ l,vix l ≤ l.length
  | [] => Nat.le_refl _
  | (o,fr) :: rest => by
    have := vix_le rest
    unfold vix
    split
    · exact Nat.zero_le _
    · simp only [List.length_cons]; omega
theorem vix_at : ∀ {l : List (ROper × Bool)},vix l < l.length → ∃ o fr,l[vix l]? = some (o,fr) ∧ (isVR o.op && fr) = true
  | [],h => by simp at h
  | (o,fr) :: rest,h => by
    unfold vix at h ⊢
    split
    · rename_i hv; exact ⟨o,fr,rfl,hv⟩
    · rename_i hv
      rw [if_neg hv] at h
      obtain ⟨o',fr',h1,h2⟩ := vix_at (l := rest) (by simpa using h)
      exact ⟨o',fr',by simpa using h1,h2⟩
structure Trace (P : Program) (l : List (ROper × Bool)) (K : Env → AHeap → Prop) (E : Nat → Env) (G B : Nat → AHeap) (V : Nat → Value) : Prop where
  env : ∀ (i : Nat) r f,l[i]? = some (r,f) → E (i + 1) = (E i).put r.dst (V i)
  step : ∀ (i : Nat) r f,l[i]? = some (r,f) → (wantedA r.guard (E i) = some false ∧ V i = undef ∧ G (i + 1) = G i ∧ B (i + 1) = B i) ∨
    (wantedA r.guard (E i) = some true ∧ AStep P f r.op (B i) (E i) (G i) (V i) (G (i + 1)) ∧ B (i + 1) = if ropWrites r.op then G (i + 1) else B i)
  fin : K (E l.length) (G l.length)
theorem ADraw.trace {P : Program} {K : Env → AHeap → Prop} : ∀ {l : List (ROper × Bool)} {B₀ : AHeap} {env : Env} {H : AHeap},ADraw P l B₀ K env H →
    ∃ E G B V,E 0 = env ∧ G 0 = H ∧ B 0 = B₀ ∧ Trace P (l.take (vix l)) (AOps P ((l.drop (vix l)).map (·.1)) K) E G B V
  | [],B₀,env,H,h => ⟨fun _ => env,fun _ => H,fun _ => B₀,fun _ => undef,rfl,rfl,rfl,⟨fun i r f h => by simp at h,fun i r f h => by simp at h,h⟩⟩
  | (o,fr) :: rest,B₀,env,H,h => by
    unfold ADraw at h
    split at h
    · rename_i hv
      have e0 : vix ((o,fr) :: rest) = 0 := by unfold vix; rw [if_pos hv]
      rw [e0]
      exact ⟨fun _ => env,fun _ => H,fun _ => B₀,fun _ => undef,rfl,rfl,rfl,⟨fun i r f h => by simp at h,fun i r f h => by simp at h,h⟩⟩
    rename_i hv
    have e0 : vix ((o, fr) :: rest) = vix rest + 1 := by conv => lhs; unfold vix
                                                         rw [if_neg hv]
    rw [e0,List.take_succ_cons,List.drop_succ_cons]
    obtain ⟨b,hb,ht,hf⟩ := h
    cases b with
    | true =>
      obtain ⟨v,H',hs,hrest⟩ := ht rfl
      obtain ⟨E,G,B,V,e1,e2,e3,ht⟩ := ADraw.trace hrest
      refine ⟨fun | 0 => env | i + 1 => E i,fun | 0 => H | i + 1 => G i,fun | 0 => B₀ | i + 1 => B i,fun | 0 => v | i + 1 => V i,rfl,rfl,rfl,⟨?_,?_,ht.fin⟩⟩
      · intro i r f hi
        cases i with
        | zero => simp only [List.getElem?_cons_zero,Option.some.injEq,Prod.mk.injEq] at hi; obtain ⟨rfl,rfl⟩ := hi; exact e1
        | succ i => exact ht.env i r f (by simpa using hi)
      · intro i r f hi
        cases i with
        | zero => simp only [List.getElem?_cons_zero,Option.some.injEq,Prod.mk.injEq] at hi; obtain ⟨rfl,rfl⟩ := hi; exact .inr ⟨hb,(show AStep P fr o.op B₀ env H v (G 0) by rw [e2]; exact hs),(show B 0 = if ropWrites o.op then G 0 else B₀ by rw [e2]; exact e3)⟩
        | succ i => exact ht.step i r f (by simpa using hi)
    | false =>
      obtain ⟨E,G,B,V,e1,e2,e3,ht⟩ := ADraw.trace (hf rfl)
      refine ⟨fun | 0 => env | i + 1 => E i,fun | 0 => H | i + 1 => G i,fun | 0 => B₀ | i + 1 => B i,fun | 0 => undef | i + 1 => V i,rfl,rfl,rfl,⟨?_,?_,ht.fin⟩⟩
      · intro i r f hi
        cases i with
        | zero => simp only [List.getElem?_cons_zero,Option.some.injEq,Prod.mk.injEq] at hi; obtain ⟨rfl,rfl⟩ := hi; exact e1
        | succ i => exact ht.env i r f (by simpa using hi)
      · intro i r f hi
        cases i with
        | zero => simp only [List.getElem?_cons_zero,Option.some.injEq,Prod.mk.injEq] at hi; obtain ⟨rfl,rfl⟩ := hi; exact .inl ⟨hb,rfl,e2,e3⟩
        | succ i => exact ht.step i r f (by simpa using hi)
def envOf (l : List (ROper × Bool)) (E : Nat → Env) (V : Nat → Value) (s : Nat → Bool) : Nat → Env
  | 0 => E 0
  | m + 1 => if s m then (envOf l E V s m).put ((l[m]?).bind (·.1.dst)) (V m) else envOf l E V s m
theorem Env.put_len (e : Env) (x : Option Nat) (v : Value) : (e.put x v).length = e.length := by cases x <;> simp [Env.put]
theorem Env.put_comm (e : Env) {x y : Option Nat} (v u : Value) (h : ∀ d,x = some d → y ≠ some d) : (e.put x v).put y u = (e.put y u).put x v := by
  cases x with
  | none => rfl
  | some d => cases y with
    | none => rfl
    | some c =>
      have hne : d ≠ c := fun k => h d rfl (k ▸ rfl)
      simp only [Env.put]
      exact List.set_comm _ _ hne
theorem Env.put_get (e : Env) {x : Option Nat} {v : Value} {t : Nat} (h : x ≠ some t) : (e.put x v)[t]? = e[t]? := by
  cases x with
  | none => rfl
  | some d => simp only [Env.put]; exact List.getElem?_set_ne (fun k => h (by rw [k]))
section
variable {P : Program} {l : List (ROper × Bool)} {K : Env → AHeap → Prop} {E : Nat → Env} {G B : Nat → AHeap} {V : Nat → Value}
theorem Trace.get (ht : Trace P l K E G B V) {m : Nat} (hm : m < l.length) : E (m + 1) = (E m).put ((l[m]?).bind (·.1.dst)) (V m) := by
  have h := List.getElem?_eq_getElem hm
  rw [ht.env m _ _ h,h]
  rfl
theorem envOf_all (ht : Trace P l K E G B V) {s : Nat → Bool} : ∀ m,m ≤ l.length → (∀ j,j < m → s j = true) → envOf l E V s m = E m
  | 0,_,_ => rfl
  | m + 1,hm,hs => by
    simp only [envOf,hs m (by omega),if_true]
    rw [envOf_all ht m (by omega) fun j hj => hs j (by omega),ht.get (by omega)]
theorem envOf_none {s : Nat → Bool} (hs : ∀ j,s j = false) : ∀ m,envOf l E V s m = E 0
  | 0 => rfl
  | m + 1 => by simp [envOf,hs m,envOf_none hs m]
theorem envOf_slot (ht : Trace P l K E G B V) {s : Nat → Bool} {i t : Nat} (hl : ∀ j,j < l.length → (l[j]?).bind (·.1.dst) = some t → (j < i → s j = true) ∧ (i ≤ j → s j = false)) :
    ∀ m,m ≤ l.length → (envOf l E V s m)[t]? = (E (min m i))[t]?
  | 0,_ => by simp [envOf]
  | m + 1,hm => by
    have ih := envOf_slot ht hl m (by omega)
    have hg := ht.get (m := m) (by omega)
    by_cases hd : (l[m]?).bind (·.1.dst) = some t
    · obtain ⟨h1,h2⟩ := hl m (by omega) hd
      by_cases hmi : m < i
      · have e1 : min (m + 1) i = m + 1 := by omega
        have e2 : min m i = m := by omega
        rw [e2] at ih
        rw [e1,hg]
        simp only [envOf,h1 hmi,if_true,hd,Env.put,List.getElem?_set]
        have : (envOf l E V s m).length = (E m).length := by
          have : ∀ k,k ≤ l.length → (envOf l E V s k).length = (E 0).length := fun k hk => by
            clear ih hm hg hd h1 h2 hmi e1 e2
            induction k with
            | zero => rfl
            | succ k ihk => simp only [envOf]; split <;> simp [Env.put_len,ihk (by omega)]
          have h' : ∀ k,k ≤ l.length → (E k).length = (E 0).length := fun k hk => by
            clear ih hm hg hd h1 h2 hmi e1 e2 this
            induction k with
            | zero => rfl
            | succ k ihk => rw [ht.get (by omega),Env.put_len,ihk (by omega)]
          rw [this m (by omega),h' m (by omega)]
        simp [this]
      · have e1 : min (m + 1) i = i := by omega
        have e2 : min m i = i := by omega
        rw [e2] at ih
        rw [e1]
        simp only [envOf,h2 (by omega)]
        exact ih
    · have e : (envOf l E V s (m + 1))[t]? = (envOf l E V s m)[t]? := by
        simp only [envOf]
        split
        · exact Env.put_get _ hd
        · rfl
      rw [e,ih]
      by_cases hmi : m < i
      · have e1 : min (m + 1) i = m + 1 := by omega
        have e2 : min m i = m := by omega
        rw [e1,e2,hg,Env.put_get _ hd]
      · have e1 : min (m + 1) i = i := by omega
        have e2 : min m i = i := by omega
        rw [e1,e2]
theorem envOf_add {s s' : Nat → Bool} {i : Nat} (hi : i < l.length) (h0 : s i = false) (h1 : s' i = true) (hs : ∀ j,j ≠ i → s' j = s j)
    (hd : ∀ j,i < j → j < l.length → s j = true → ∀ d,(l[i]?).bind (·.1.dst) = some d → (l[j]?).bind (·.1.dst) ≠ some d) :
    ∀ m,m ≤ l.length → envOf l E V s' m = if i < m then (envOf l E V s m).put ((l[i]?).bind (·.1.dst)) (V i) else envOf l E V s m
  | 0,_ => by simp [envOf]
  | m + 1,hm => by
    have ih := envOf_add hi h0 h1 hs hd m (by omega)
    simp only [envOf]
    by_cases hmi : m = i
    · subst hmi
      simp only [h0,h1,if_true,Nat.lt_irrefl,if_false] at ih ⊢
      rw [ih]
      simp
    · rw [hs m hmi]
      by_cases hlt : i < m
      · simp only [hlt,if_true] at ih
        rw [if_pos (by omega : i < m + 1),ih]
        split
        · rename_i hsm
          exact Env.put_comm _ _ _ fun d hdd => hd m hlt (by omega) hsm d hdd
        · rfl
      · simp only [hlt,if_false] at ih
        rw [if_neg (by omega : ¬ i < m + 1),ih]
end
end Go.Lq

namespace Go.Lq
open Go
def Clo (ops : Array Oper) (s : Nat → Bool) : Prop :=
  ∀ (j : Nat) o,ops[j]? = some o → s j = true → ∀ e ∈ o.after,Region.binds .any e = true → s e.on = true
def GoodAcc (ops : Array Oper) (acc : List Nat) : Prop :=
  ∀ (j m : Nat) o,acc[j]? = some m → ops[j]? = some o → ∀ s,Clo ops s → (∀ e ∈ o.after,Region.binds .any e = true → s e.on = true) → ∀ i,m.testBit i = true → s i = true
theorem maskOf_bit {acc : List Nat} {i : Nat} : ∀ (es : List Edge) (s₀ : Nat),
    (es.foldl (fun s e => if Region.binds .any e then s ||| 2 ^ e.on ||| acc.getD e.on 0 else s) s₀).testBit i = true →
      s₀.testBit i = true ∨ ∃ e ∈ es,Region.binds .any e = true ∧ (e.on = i ∨ (acc.getD e.on 0).testBit i = true)
  | [],s₀,h => .inl h
  | e :: es,s₀,h => by
    simp only [List.foldl_cons] at h
    rcases maskOf_bit es _ h with h1 | ⟨e',he,h1⟩
    · split at h1
      · rename_i hb
        simp only [Nat.testBit_or,Bool.or_eq_true] at h1
        rcases h1 with (h1 | h1) | h1
        · exact .inl h1
        · refine .inr ⟨e,by simp,hb,.inl ?_⟩
          rw [Nat.testBit_two_pow] at h1
          simpa using h1
        · exact .inr ⟨e,by simp,hb,.inr h1⟩
      · exact .inl h1
    · exact .inr ⟨e',by simp [he],h1⟩
theorem ancs_good {ops : Array Oper} : ∀ (l : List Oper) (acc : List Nat),ops.toList.drop acc.length = l → GoodAcc ops acc → GoodAcc ops (ancs l acc)
  | [],acc,_,h => by simpa [ancs] using h
  | o :: l,acc,hl,h => by
    simp only [ancs,force_eq]
    have ho : ops[acc.length]? = some o := by
      have := congrArg (·[0]?) hl
      simpa using this
    have hlt : acc.length < ops.size := (Array.getElem?_eq_some_iff.1 ho).1
    refine ancs_good l _ (by simp [← List.tail_drop,hl]) fun j m o' hj ho' s hs he i hi => ?_
    by_cases hjl : j < acc.length
    · rw [List.getElem?_append_left hjl] at hj
      exact h j m o' hj ho' s hs he i hi
    · have : j = acc.length := by
        have := (List.getElem?_eq_some_iff.1 hj).1
        simp at this; omega
      subst this
      rw [ho] at ho'; cases ho'
      simp at hj
      subst hj
      rcases maskOf_bit _ _ hi with h1 | ⟨e,hem,hb,h1⟩
      · simp at h1
      · have hse := he e (by simpa using hem) hb
        rcases h1 with rfl | h1
        · exact hse
        · cases hg : acc[e.on]? with
          | none => simp [List.getD,hg] at h1
          | some m' =>
            have hlt' : e.on < acc.length := (List.getElem?_eq_some_iff.1 hg).1
            have ho2 : ops[e.on]? = some ops[e.on] := Array.getElem?_eq_getElem (by omega)
            exact h e.on m' _ hg ho2 s hs (hs e.on _ ho2 hse) i (by simpa [List.getD,hg] using h1)
theorem rowOk_spec {ops : Array Oper} {fs : List Bool} {m : Nat} {y : Oper} {fy : Bool} : ∀ (xs : List Oper) (i₀ : Nat),rowOk ops fs m y fy xs i₀ = true →
    ∀ (k : Nat) x,xs[k]? = some x → m.testBit (i₀ + k) = true ∨ pairOk ops x y (fs.getD (i₀ + k) false) fy = true
  | [],i₀,_,k,x,hk => by simp at hk
  | x :: xs,i₀,h,k,x',hk => by
    simp only [rowOk,Bool.and_eq_true,Bool.or_eq_true] at h
    cases k with
    | zero => simp at hk; subst hk; exact h.1
    | succ k =>
      have := rowOk_spec xs (i₀ + 1) h.2 k x' (by simpa using hk)
      rwa [show i₀ + 1 + k = i₀ + (k + 1) by omega] at this
theorem drawRows_spec {ops : Array Oper} {as : List Nat} {fs : List Bool} : ∀ (l : List Oper) (j₀ : Nat),ops.toList.drop j₀ = l → drawRows ops as fs l j₀ = true →
    ∀ (j : Nat) y,j₀ ≤ j → ops[j]? = some y → (∀ e ∈ y.after,Region.binds .any e = true → e.on < j) ∧
      ∀ (i : Nat) x,i < j → ops[i]? = some x → (as.getD j 0).testBit i = true ∨ pairOk ops x y (fs.getD i false) (fs.getD j false) = true
  | [],j₀,hl,_,j,y,hj,hy => by
    have h1 : ops.size ≤ j₀ := by
      have := congrArg List.length hl
      simp at this; omega
    have := (Array.getElem?_eq_some_iff.1 hy).1
    omega
  | o :: l,j₀,hl,h,j,y,hj,hy => by
    have ho : ops[j₀]? = some o := by
      have := congrArg (·[0]?) hl
      simpa using this
    simp only [drawRows,Bool.and_eq_true] at h
    by_cases hjj : j = j₀
    · subst hjj
      rw [ho] at hy; cases hy
      refine ⟨fun e he hb => ?_,fun i x hi hx => ?_⟩
      · have := Array.all_eq_true_iff_forall_mem.1 h.1.1 e he
        simpa [hb] using this
      · have := rowOk_spec _ 0 h.1.2 i x (by rw [List.getElem?_take]; simp [hi]; simpa using hx)
        simpa using this
    · exact drawRows_spec l (j₀ + 1) (by rw [← List.tail_drop,hl]; rfl) h.2 j y (by omega) hy
theorem draw_ord {ops : Array Oper} (h : drawOk ops = true) {i j : Nat} {x y : Oper} (hij : i < j) (hx : ops[i]? = some x) (hy : ops[j]? = some y) :
    (∀ s,Clo ops s → (∀ e ∈ y.after,Region.binds .any e = true → s e.on = true) → s i = true) ∨ pairOk ops x y ((freeList ops).getD i false) ((freeList ops).getD j false) = true := by
  simp only [drawOk,Bool.and_eq_true] at h
  rcases (drawRows_spec _ 0 (by simp) h.2 j y (by omega) hy).2 i x hij hx with h1 | h1
  · left
    intro s hs he
    cases hg : (ancs ops.toList [])[j]? with
    | none => simp [List.getD,hg] at h1
    | some m => exact ancs_good ops.toList [] (by simp) (fun j m o hj => by simp at hj) j m y hg hy s hs he i (by simpa [List.getD,hg] using h1)
  · exact .inr h1
theorem draw_back {ops : Array Oper} (h : drawOk ops = true) {j : Nat} {y : Oper} (hy : ops[j]? = some y) : ∀ e ∈ y.after,Region.binds .any e = true → e.on < j := by
  simp only [drawOk,Bool.and_eq_true] at h
  exact (drawRows_spec _ 0 (by simp) h.2 j y (by omega) hy).1
theorem ordAll_spec {m : Nat} : ∀ {j i : Nat},ordAll m j = true → i < j → m.testBit i = true
  | 0,i,_,h => by omega
  | j + 1,i,h,hi => by
    simp only [ordAll,Bool.and_eq_true] at h
    by_cases e : i = j
    · subst e; exact h.1
    · exact ordAll_spec h.2 (by omega)
theorem chainFrom_spec {ops : Array Oper} {as : List Nat} : ∀ (l : List Oper) (j₀ : Nat),ops.toList.drop j₀ = l → chainFrom as l j₀ = true →
    ∀ (j : Nat) y,j₀ ≤ j → ops[j]? = some y → ∀ i,i < j → (as.getD j 0).testBit i = true
  | [],j₀,hl,_,j,y,hj,hy,i,hi => by
    have h1 : ops.size ≤ j₀ := by
      have := congrArg List.length hl
      simp at this; omega
    have := (Array.getElem?_eq_some_iff.1 hy).1
    omega
  | o :: l,j₀,hl,h,j,y,hj,hy,i,hi => by
    have hl' : ops.toList.drop (j₀ + 1) = l := by rw [← List.tail_drop,hl]; rfl
    simp only [chainFrom,Bool.and_eq_true] at h
    by_cases hjj : j = j₀
    · subst hjj; exact ordAll_spec h.1 hi
    · exact chainFrom_spec l (j₀ + 1) hl' h.2 j y (by omega) hy i hi
theorem freesOf_chain {ops : Array Oper} {as : List Nat} {ks : List Oper} : ∀ (l : List Oper) (j₀ : Nat),ops.toList.drop j₀ = l → ∀ (b : Nat) x,j₀ ≤ b → ops[b]? = some x → vcall x.op = true → (freesOf as ks l j₀).getD (b - j₀) false = true →
    ∀ (j : Nat) y,b ≤ j → ops[j]? = some y → ∀ i,i < j → (as.getD j 0).testBit i = true
  | [],j₀,hl,b,x,hb,hx,_,h,_,_,_,_,_,_ => by simp [freesOf] at h
  | o :: l,j₀,hl,b,x,hb,hx,hv,h,j,y,hbj,hy,i,hi => by
    have ho : ops[j₀]? = some o := by
      have := congrArg (·[0]?) hl
      simpa using this
    have hl' : ops.toList.drop (j₀ + 1) = l := by rw [← List.tail_drop,hl]; rfl
    by_cases e : b = j₀
    · subst e
      rw [ho] at hx; cases hx
      rw [Nat.sub_self] at h
      simp only [freesOf,hv,List.getD_cons_zero,Bool.and_eq_true] at h
      by_cases hjj : j = b
      · subst hjj; exact ordAll_spec h.1 hi
      · exact chainFrom_spec l (b + 1) hl' h.2 j y (by omega) hy i hi
    · refine freesOf_chain (ks := ks) l (j₀ + 1) hl' b x (by omega) hx hv ?_ j y hbj hy i hi
      rw [show b - j₀ = (b - (j₀ + 1)) + 1 by omega] at h
      simpa [freesOf] using h
theorem draw_chain {ops : Array Oper} {b j : Nat} {x y : Oper} (hb : ops[b]? = some x) (hv : vcall x.op = true) (hf : (freeList ops).getD b false = true) (hbj : b ≤ j) (hy : ops[j]? = some y) {s : Nat → Bool} (hs : Clo ops s)
    (he : ∀ e ∈ y.after,Region.binds .any e = true → s e.on = true) : ∀ i,i < j → s i = true := fun i hi => by
  have h1 := freesOf_chain (as := ancs ops.toList []) (ks := ops.toList) ops.toList 0 (by simp) b x (by omega) hb hv (by rw [Nat.sub_zero]; exact hf) j y hbj hy i hi
  cases hg : (ancs ops.toList [])[j]? with
  | none => simp [List.getD,hg] at h1
  | some m => exact ancs_good ops.toList [] (by simp) (fun j m o hj => by simp at hj) j m y hg hy s hs he i (by simpa [List.getD,hg] using h1)
theorem mapM_get {α γ : Type} {f : α → Option γ} : ∀ {xs : List α} {ys : List γ},xs.mapM f = some ys → ys.length = xs.length ∧ ∀ (j : Nat) x,xs[j]? = some x → ∃ y,ys[j]? = some y ∧ f x = some y
  | [],ys,h => by simp at h; subst h; exact ⟨rfl,fun j x hj => by simp at hj⟩
  | x :: xs,ys,h => by
    obtain ⟨y,ys',h1,h2,rfl⟩ := mapM_cons_some h
    obtain ⟨e1,e2⟩ := mapM_get h2
    refine ⟨by simp [e1],fun j x' hj => ?_⟩
    cases j with
    | zero => simp at hj; subst hj; exact ⟨y,by simp,h1⟩
    | succ j => simpa using e2 j x' (by simpa using hj)
theorem freesOf_len {as ks} : ∀ (l : List Oper) (j : Nat),(freesOf as ks l j).length = l.length
  | [],j => rfl
  | x :: l,j => by simp [freesOf,freesOf_len l]
theorem zip_get {ops : Array Oper} {P : Program} {rs : List ROper} (hc : ops.toList.mapM (compileOper P ops) = some rs) {j : Nat} {o : Oper} (ho : ops[j]? = some o) :
    ∃ r,(rs.zip (freeList ops))[j]? = some (r,(freeList ops).getD j false) ∧ compileOper P ops o = some r := by
  obtain ⟨e1,e2⟩ := mapM_get hc
  obtain ⟨r,h1,h2⟩ := e2 j o (by simpa using ho)
  refine ⟨r,?_,h2⟩
  have hlt : j < (freeList ops).length := by
    rw [freeList,freesOf_len]
    simpa using (Array.getElem?_eq_some_iff.1 ho).1
  rw [List.getElem?_zip_eq_some]
  exact ⟨h1,by simp [List.getD,List.getElem?_eq_getElem hlt]⟩
theorem zip_len {ops : Array Oper} {P : Program} {rs : List ROper} (hc : ops.toList.mapM (compileOper P ops) = some rs) : (rs.zip (freeList ops)).length = ops.size := by
  rw [List.length_zip,(mapM_get hc).1,freeList,freesOf_len]; simp
end Go.Lq

namespace Go.Lq
open Go
theorem frees_call {as ks} : ∀ (l : List Oper) (j₀ k : Nat) x,l[k]? = some x → (freesOf as ks l j₀).getD k false = true → isCall x.op = true
  | [],j₀,k,x,hx,_ => by simp at hx
  | y :: l,j₀,k,x,hx,h => by
    cases k with
    | zero =>
      simp at hx; subst hx
      cases hv : vcall y.op with
      | true =>
        unfold vcall at hv
        split at hv
        · rename_i c hop
          split at hv
          · rename_i t hcal; rw [hop]; simp [isCall,hcal]
          · cases hv
        · cases hv
      | false => simp [freesOf,hv] at h; exact h.1
    | succ k => exact frees_call l (j₀ + 1) k x (by simpa using hx) (by simpa [freesOf] using h)
theorem opOf_isCall {P : Program} {op : Op} (h : isCall op = true) : (∃ f args,opOf P op = .call f args) ∨ opOf P op = .extract (.const junk) 0 := by
  unfold opOf
  split
  · cases op with
    | call c =>
      simp only [compileOp]
      split
      · rename_i b hb; simp [isCall,hb] at h
      · exact .inl ⟨_,_,rfl⟩
      · exact .inr rfl
    | _ => simp [isCall] at h
  · exact .inr rfl
section
variable {P : Program} {ops : Array Oper} {rs : List ROper} {K : Env → AHeap → Prop} {E : Nat → Env} {G B : Nat → AHeap} {V : Nat → Value} {q : Nat}
theorem step_cases {free : Bool} {r : ROp} {B : AHeap} {env : Env} {H : AHeap} {v : Value} {H' : AHeap} (h : AStep P free r B env H v H') :
    (∃ f args,r = .call f args) ∨ ((∀ f args,r ≠ .call f args) ∧ ropRun r (evalA env) H = some (v,H')) := by
  cases r with
  | call f args => exact .inl ⟨f,args,rfl⟩
  | _ => exact .inr ⟨fun _ _ => by simp,h⟩
theorem step_grow {free : Bool} {r : ROp} {B : AHeap} {env : Env} {H : AHeap} {v : Value} {H' : AHeap} (h : AStep P free r B env H v H') (hw : ropWrites r = false) : ∃ N,H' = H ++ N := by
  rcases step_cases h with ⟨f,args,rfl⟩ | ⟨_,h⟩
  · cases free with
    | true => exact ⟨[],by simp [h.1]⟩
    | false => exact h.1
  · exact ropRun_grow hw h
theorem step_still {free : Bool} {op : Op} {B : AHeap} {env : Env} {H : AHeap} {v : Value} {H' : AHeap} (hfr : free = true → isCall op = true) (h : AStep P free (opOf P op) B env H v H') (ht : turns free op = false) : H' = H := by
  simp only [turns,Bool.or_eq_false_iff] at ht
  rcases step_cases h with ⟨f,args,hr⟩ | ⟨hne,h⟩
  · obtain ⟨c,rfl,hcal,_⟩ := opOf_call hr
    have : free = true := by
      have := ht.2
      simpa [Lq.lays,hcal] using this
    subst this
    rw [hr] at h
    exact h.1
  · rcases formed_opOf (P := P) op with ⟨r,hr,hf⟩ | hr
    · rw [hr] at h hne
      have hw : ropWrites r = false := by
        cases hw : ropWrites r with
        | false => rfl
        | true => have := hf.writes hw; rw [ht.1] at this; cases this
      have hl : ropLays r = false := by
        cases hl : ropLays r with
        | false => rfl
        | true =>
          have h1 := hf.lays hl
          have h2 := ht.2
          rw [h1] at h2
          have : free = true := by simpa using h2
          rcases opOf_isCall (P := P) (hfr this) with ⟨f,args,hc⟩ | hc
          · rw [hr] at hc; exact absurd hc (hne f args)
          · rw [hr] at hc; subst hc; simp [ropLays] at hl
      exact ropRun_still hw hl h
    · rw [hr,fail_run rfl] at h; cases h
theorem tr_step (hc : ops.toList.mapM (compileOper P ops) = some rs) (ht : Trace P ((rs.zip (freeList ops)).take q) K E G B V) {j : Nat} {o : Oper} (hjq : j < q) (ho : ops[j]? = some o) :
    ∃ r,compileOper P ops o = some r ∧ (rs.zip (freeList ops))[j]? = some (r,(freeList ops).getD j false) ∧
      ((wantedA r.guard (E j) = some false ∧ V j = undef ∧ G (j + 1) = G j ∧ B (j + 1) = B j) ∨
       (wantedA r.guard (E j) = some true ∧ AStep P ((freeList ops).getD j false) (opOf P o.op) (B j) (E j) (G j) (V j) (G (j + 1)) ∧ B (j + 1) = if ropWrites (opOf P o.op) then G (j + 1) else B j)) := by
  obtain ⟨r,h1,h2⟩ := zip_get hc ho
  have := ht.step j r _ (by rw [List.getElem?_take_of_lt hjq]; exact h1)
  rw [(compileOper_eq h2).2] at this
  exact ⟨r,h2,h1,this⟩
theorem opWrites {op : Op} (h : Lq.writes op = false) : ropWrites (opOf P op) = false := by
  rcases formed_opOf (P := P) op with ⟨r,hr,hf⟩ | hr
  · rw [hr]
    cases hw : ropWrites r with
    | false => rfl
    | true => have := hf.writes hw; rw [h] at this; cases this
  · rw [hr]; rfl
theorem tr_grow (hc : ops.toList.mapM (compileOper P ops) = some rs) (ht : Trace P ((rs.zip (freeList ops)).take q) K E G B V) (hq : q ≤ ops.size) {p : Nat} :
    ∀ d,p + d ≤ q → (∀ (j : Nat) o,p ≤ j → j < p + d → ops[j]? = some o → Lq.writes o.op = false) → (∃ N,G (p + d) = G p ++ N) ∧ B (p + d) = B p
  | 0,_,_ => ⟨⟨[],by simp⟩,rfl⟩
  | d + 1,hd,hw => by
    obtain ⟨⟨N,hN⟩,hB⟩ := tr_grow hc ht hq d (by omega) fun j o h1 h2 h3 => hw j o h1 (by omega) h3
    have ho : ops[p + d]? = some ops[p + d] := Array.getElem?_eq_getElem (by omega)
    have hw' := hw (p + d) _ (by omega) (by omega) ho
    obtain ⟨r,_,_,hs⟩ := tr_step hc ht (by omega) ho
    rw [show p + (d + 1) = p + d + 1 by omega]
    rcases hs with ⟨_,_,h1,h2⟩ | ⟨_,h1,h2⟩
    · exact ⟨⟨N,by rw [h1,hN]⟩,by rw [h2,hB]⟩
    · obtain ⟨N',hN'⟩ := step_grow h1 (opWrites hw')
      refine ⟨⟨N ++ N',by rw [hN',hN,List.append_assoc]⟩,?_⟩
      rw [h2,opWrites hw',hB]; rfl
theorem tr_still (hc : ops.toList.mapM (compileOper P ops) = some rs) (ht : Trace P ((rs.zip (freeList ops)).take q) K E G B V) (hq : q ≤ ops.size) {p : Nat} :
    ∀ d,p + d ≤ q → (∀ (j : Nat) o,p ≤ j → j < p + d → ops[j]? = some o → turns ((freeList ops).getD j false) o.op = false) → G (p + d) = G p
  | 0,_,_ => rfl
  | d + 1,hd,hw => by
    have ih := tr_still hc ht hq d (by omega) fun j o h1 h2 h3 => hw j o h1 (by omega) h3
    have ho : ops[p + d]? = some ops[p + d] := Array.getElem?_eq_getElem (by omega)
    obtain ⟨r,_,_,hs⟩ := tr_step hc ht (by omega) ho
    rw [show p + (d + 1) = p + d + 1 by omega]
    rcases hs with ⟨_,_,h1,h2⟩ | ⟨_,h1,h2⟩
    · rw [h1,ih]
    · rw [step_still (fun h => frees_call _ 0 (p + d) _ (by simp) h) h1 (hw (p + d) _ (by omega) (by omega) ho),ih]
theorem tr_base (hc : ops.toList.mapM (compileOper P ops) = some rs) (ht : Trace P ((rs.zip (freeList ops)).take q) K E G B V) (hq : q ≤ ops.size) (h0 : B 0 = G 0) : ∀ j,j ≤ q → ∃ N,G j = B j ++ N
  | 0,_ => ⟨[],by simp [h0]⟩
  | j + 1,hj => by
    obtain ⟨N,hN⟩ := tr_base hc ht hq h0 j (by omega)
    have ho : ops[j]? = some ops[j] := Array.getElem?_eq_getElem (by omega)
    obtain ⟨r,_,_,hs⟩ := tr_step hc ht (by omega) ho
    rcases hs with ⟨_,_,h1,h2⟩ | ⟨_,h1,h2⟩
    · exact ⟨N,by rw [h1,h2,hN]⟩
    · cases hw : ropWrites (opOf P ops[j].op) with
      | true => exact ⟨[],by rw [h2,hw]; simp⟩
      | false =>
        obtain ⟨N',hN'⟩ := step_grow h1 hw
        exact ⟨N ++ N',by rw [h2,hw,hN',hN,List.append_assoc]; rfl⟩
end
end Go.Lq

namespace Go.Lq
open Go
theorem pairOk_spec {ops : Array Oper} {x y : Oper} {fx fy : Bool} (h : pairOk ops x y fx fy = true) :
    x.apart ops y = true ∧ ¬ (Lq.writes x.op = true ∧ heapy y.op = true) ∧ ¬ (heapy x.op = true ∧ Lq.writes y.op = true) ∧ ¬ (turns fx x.op = true ∧ turns fy y.op = true) := by
  simp only [pairOk,Bool.and_eq_true,Bool.not_eq_true',Bool.and_eq_false_iff] at h
  obtain ⟨⟨⟨h1,h2⟩,h3⟩,h4⟩ := h
  refine ⟨h1,fun k => ?_,fun k => ?_,fun k => ?_⟩
  · rcases h2 with h | h <;> simp_all
  · rcases h3 with h | h <;> simp_all
  · rcases h4 with h | h <;> simp_all
theorem opOf_opd {P : Program} {op : Op} (h : opOf P op ≠ .extract (.const junk) 0) : ∀ x ∈ op.operands.toList,opdOk P x = true := by
  unfold opOf at h
  split at h
  · rename_i hk; exact fun x hx => List.all_eq_true.1 hk x hx
  · exact absurd rfl h
theorem load_fwd {r : ROp} {ρ : Operand → Value} {H N : AHeap} {v : Value} {H' : AHeap} (hl : ropLoads r = true) (h : ropRun r ρ H = some (v,H')) : ropRun r ρ (H ++ N) = some (v,H ++ N) := by
  have hget : ∀ (id : Nat) o,H[id]? = some o → (H ++ N)[id]? = some o := fun id o ho => by
    rw [List.getElem?_append_left (List.getElem?_eq_some_iff.1 ho).1]; exact ho
  cases r with
  | load x =>
    simp only [ropRun] at h ⊢
    split at h
    · rename_i id off e
      simp only [Option.map_eq_some_iff,Prod.mk.injEq] at h ⊢
      obtain ⟨y,h1,rfl,_⟩ := h
      refine ⟨y,?_,rfl,trivial⟩
      unfold cellAt at *
      split at h1
      · rename_i o e vs ho; rw [hget _ _ ho]; exact h1
      · cases h1
    · cases h
  | loadN n x =>
    simp only [ropRun] at h ⊢
    split at h
    · rename_i id off e
      simp only [Option.map_eq_some_iff,Prod.mk.injEq] at h ⊢
      obtain ⟨y,h1,rfl,_⟩ := h
      refine ⟨y,?_,rfl,trivial⟩
      unfold cellsAt at *
      split at h1
      · rename_i o e vs ho; rw [hget _ _ ho]; exact h1
      · cases h1
    · cases h
  | mapGet z ls ok m k =>
    simp only [ropRun] at h ⊢
    split at h
    · rename_i id cs e1 e2
      split at h
      · rename_i es ho
        rw [hget _ _ ho]
        dsimp only
        split at h
        · rename_i hc
          rw [if_pos hc]
          simp only [Option.map_eq_some_iff,Prod.mk.injEq] at h ⊢
          obtain ⟨y,h1,h2,_⟩ := h
          exact ⟨y,h1,h2,trivial⟩
        · cases h
      · cases h
    · cases h
  | byteS x =>
    simp only [ropRun] at h ⊢
    split at h
    · rename_i id off n c e
      simp only [Option.map_eq_some_iff,Prod.mk.injEq] at h ⊢
      obtain ⟨y,h1,rfl,_⟩ := h
      refine ⟨y,?_,rfl,trivial⟩
      split at h1
      · rename_i hn
        rw [if_pos hn]
        unfold cellAt at *
        split at h1
        · rename_i o e vs ho; rw [hget _ _ ho]; exact h1
        · cases h1
      · cases h1
    · cases h
  | _ => cases hl
theorem load_back {r : ROp} {ρ : Operand → Value} {H N : AHeap} {v : Value} {H' : AHeap} (hl : ropLoads r = true) (h : ropRun r ρ (H ++ N) = some (v,H'))
    (hid : ∀ x ∈ ropOps r,∀ id,((∃ off,ρ x = .pointer (some ⟨id,off,none⟩)) ∨ ρ x = .map (some id) ∨ ∃ off c,ρ x = .slice (some ⟨id,off,none⟩) 1 c) → id < H.length) : ropRun r ρ H = some (v,H) := by
  cases r with
  | load x =>
    simp only [ropRun] at h ⊢
    split at h
    · rename_i id off e
      have := hid x (by simp [ropOps]) id (.inl ⟨off,e⟩)
      simp only [Option.map_eq_some_iff,Prod.mk.injEq] at h ⊢
      obtain ⟨y,h1,rfl,_⟩ := h
      refine ⟨y,?_,rfl,trivial⟩
      unfold cellAt at *
      rwa [List.getElem?_append_left this] at h1
    · cases h
  | loadN n x =>
    simp only [ropRun] at h ⊢
    split at h
    · rename_i id off e
      have := hid x (by simp [ropOps]) id (.inl ⟨off,e⟩)
      simp only [Option.map_eq_some_iff,Prod.mk.injEq] at h ⊢
      obtain ⟨y,h1,rfl,_⟩ := h
      refine ⟨y,?_,rfl,trivial⟩
      unfold cellsAt at *
      rwa [List.getElem?_append_left this] at h1
    · cases h
  | mapGet z ls ok m k =>
    simp only [ropRun] at h ⊢
    split at h
    · rename_i id cs e1 e2
      have := hid m (by simp [ropOps]) id (.inr (.inl e1))
      rw [List.getElem?_append_left this] at h
      split at h
      · rename_i es ho
        rw [ho]
        dsimp only
        split at h
        · rename_i hc
          rw [if_pos hc]
          simp only [Option.map_eq_some_iff,Prod.mk.injEq] at h ⊢
          obtain ⟨y,h1,h2,_⟩ := h
          exact ⟨y,h1,h2,trivial⟩
        · cases h
      · cases h
    · cases h
  | byteS x =>
    simp only [ropRun] at h ⊢
    split at h
    · rename_i id off n c e
      simp only [Option.map_eq_some_iff,Prod.mk.injEq] at h ⊢
      obtain ⟨y,h1,rfl,_⟩ := h
      refine ⟨y,?_,rfl,trivial⟩
      split at h1
      · rename_i hn
        subst hn
        rw [if_pos rfl]
        have := hid x (by simp [ropOps]) id (.inr (.inr ⟨off,c,e⟩))
        unfold cellAt at *
        rwa [List.getElem?_append_left this] at h1
      · cases h1
    · cases h
  | _ => cases hl
theorem class_of {P : Program} {free : Bool} {op : Op} (hfr : free = true → isCall op = true) (ht : turns free op = false) (hne : ∀ f args,opOf P op ≠ .call f args)
    (hnf : opOf P op ≠ .extract (.const junk) 0) : ropWrites (opOf P op) = false ∧ ropLays (opOf P op) = false ∧ (ropLoads (opOf P op) = true → heapy op = true) := by
  simp only [turns,Bool.or_eq_false_iff] at ht
  rcases formed_opOf (P := P) op with ⟨r,hr,hf⟩ | hr
  · rw [hr] at hne ⊢
    refine ⟨?_,?_,fun h => by simp [heapy,hf.loads h]⟩
    · cases hw : ropWrites r with
      | false => rfl
      | true => have := hf.writes hw; rw [ht.1] at this; cases this
    · cases hl : ropLays r with
      | false => rfl
      | true =>
        have h1 := hf.lays hl
        have h2 := ht.2
        rw [h1] at h2
        have : free = true := by simpa using h2
        rcases opOf_isCall (P := P) (hfr this) with ⟨f,args,hc⟩ | hc
        · rw [hr] at hc; exact absurd hc (hne f args)
        · exact absurd hc hnf
  · exact absurd hr hnf
theorem getD_flip {listed : Array Bool} {i : Nat} (h : listed.getD i true = false) : listed.getD i false = false ∧ i < listed.size := by
  by_cases hi : i < listed.size
  · exact ⟨by simpa [hi] using h,hi⟩
  · simp [hi] at h
section
variable {P : Program} {ops : Array Oper} {rs : List ROper} {Q : AExit → Env → AHeap → Prop} {E : Nat → Env} {G B : Nat → AHeap} {V : Nat → Value} {q : Nat} {K : Env → AHeap → Prop}
theorem draw_sound (hd : drawOk ops = true) (hc : ops.toList.mapM (compileOper P ops) = some rs) (ht : Trace P ((rs.zip (freeList ops)).take q) K E G B V) (hB : B 0 = G 0) (hq : q ≤ ops.size)
    (hbar : ∀ (j : Nat) y,q ≤ j → ops[j]? = some y → ∀ s,Clo ops s → (∀ e ∈ y.after,Region.binds .any e = true → s e.on = true) → ∀ i,i < q → s i = true)
    {base lo : Nat} {β₀ : Beta} {H₀ : AHeap} {w₀ : World} (hi₀ : Inj P β₀ H₀ base w₀) {ro : Option Nat} {rm : Nat}
    (hfin : ∀ (fuel : Nat) (listed : Array Bool) (β : Beta) (a : Act) (w : World),listed.size = ops.size → (∀ j,j < ops.size → (listed.getD j false = true ↔ j < q)) → ops.size - q ≤ fuel →
      Inj P β (G q) base w → EnvRel β (E q) a.tmps → Marks lo a.defers w → Post β₀ H₀ w₀ β (G q) w → wpAnyIn (wideF ro) rm P .any ops (Out P lo β₀ H₀ base w₀ Q) fuel listed a w) :
    ∀ (fuel : Nat) (listed : Array Bool) (u : List Nat) (k : Nat) (β : Beta) (a : Act) (w : World),
      listed.size = ops.size → Clo ops (fun j => listed.getD j false) → (∀ j,q ≤ j → listed.getD j false = false) → (∀ j,j < q → listed.getD j false = false → j ∈ u) → u.length + (ops.size - q) ≤ fuel → k ≤ q →
      (∀ (j : Nat) o,j < q → ops[j]? = some o → turns ((freeList ops).getD j false) o.op = true → (listed.getD j false = true ↔ j < k)) →
      Inj P β (G k) base w → EnvRel β (envOf ((rs.zip (freeList ops)).take q) E V (fun j => listed.getD j false) q) a.tmps → Marks lo a.defers w → Post β₀ H₀ w₀ β (G k) w →
      wpAnyIn (wideF ro) rm P .any ops (Out P lo β₀ H₀ base w₀ Q) fuel listed a w := by
  have hlen : ((rs.zip (freeList ops)).take q).length = q := by rw [List.length_take,zip_len hc]; omega
  have gz : ∀ (j : Nat) o,j < q → ops[j]? = some o → ∃ r,((rs.zip (freeList ops)).take q)[j]? = some (r,(freeList ops).getD j false) ∧ compileOper P ops o = some r := fun j o hj ho => by
    obtain ⟨r,h1,h2⟩ := zip_get hc ho
    exact ⟨r,by rw [List.getElem?_take_of_lt hj]; exact h1,h2⟩
  have fin : ∀ (fuel : Nat) (listed : Array Bool) (k : Nat) (β : Beta) (a : Act) (w : World),listed.size = ops.size → (∀ j,q ≤ j → listed.getD j false = false) → ops.size - q ≤ fuel → k ≤ q → (∀ j,j < q → listed.getD j false = true) →
      (∀ (j : Nat) o,j < q → ops[j]? = some o → turns ((freeList ops).getD j false) o.op = true → (listed.getD j false = true ↔ j < k)) →
      Inj P β (G k) base w → EnvRel β (envOf ((rs.zip (freeList ops)).take q) E V (fun j => listed.getD j false) q) a.tmps → Marks lo a.defers w → Post β₀ H₀ w₀ β (G k) w →
      wpAnyIn (wideF ro) rm P .any ops (Out P lo β₀ H₀ base w₀ Q) fuel listed a w := fun fuel listed k β a w hsz hhi hf hk hall htk hi he hm hp => by
    have e1 := envOf_all ht (s := fun j => listed.getD j false) q (by omega) hall
    rw [e1] at he
    have e2 : G q = G k := by
      have := tr_still hc ht hq (p := k) (q - k) (by omega) fun j o h1 h2 h3 => by
        cases hx : turns ((freeList ops).getD j false) o.op with
        | false => rfl
        | true => have := (htk j o (by omega) h3 hx).1 (hall j (by omega)); omega
      rwa [show k + (q - k) = q by omega] at this
    refine hfin fuel listed β a w hsz (fun j _ => ⟨fun h => ?_,hall j⟩) hf (e2 ▸ hi) he hm (e2 ▸ hp)
    rcases Nat.lt_or_ge j q with hj | hj
    · exact hj
    · rw [hhi j hj] at h; cases h
  intro fuel
  induction fuel with
  | zero =>
    intro listed u k β a w hsz hclo hhi hu hul hk htk hi he hm hp
    have hall : ∀ j,j < q → listed.getD j false = true := fun j hj => by
      cases hl : listed.getD j false with
      | true => rfl
      | false =>
        have h1 := hu j hj hl
        have : u = [] := List.length_eq_zero_iff.1 (by omega)
        rw [this] at h1; cases h1
    exact fin 0 listed k β a w hsz hhi (by omega) hk hall htk hi he hm hp
  | succ fuel ih =>
    intro listed u k β a w hsz hclo hhi hu hul hk htk hi he hm hp
    by_cases hall : ∀ j,j < q → listed.getD j false = true
    · exact fin (fuel + 1) listed k β a w hsz hhi (by omega) hk hall htk hi he hm hp
    refine ⟨fun hr => absurd (fun j => ?_) hall,fun i hir => ?_⟩
    · induction j using Nat.strongRecOn with
      | _ j ihj =>
        intro hj
        cases hl : listed.getD j false with
        | true => rfl
        | false =>
          have ho : ops[j]? = some ops[j] := Array.getElem?_eq_getElem (by omega)
          have hl2 : listed.getD j true = false := by
            have : j < listed.size := by omega
            simpa [this] using hl
          have : j ∈ Region.ready .any ops listed := mem_ready.2 ⟨hl2,_,ho,fun e he' hb => ihj _ (draw_back hd ho e he' hb) (by have := draw_back hd ho e he' hb; omega)⟩
          rw [hr] at this; cases this
    · obtain ⟨hl0,o,ho,hedge⟩ := mem_ready.1 hir
      have hin : i < q := by
        rcases Nat.lt_or_ge i q with h | h
        · exact h
        · exact absurd (hbar i o h ho _ hclo hedge) hall
      obtain ⟨hSi,hisz⟩ := getD_flip hl0
      obtain ⟨r,hcr,_,hstep⟩ := tr_step hc ht hin ho
      obtain ⟨r',hri,hcr'⟩ := gz i o hin ho
      obtain rfl : r = r' := Option.some.inj (hcr.symm.trans hcr')
      obtain ⟨hdst,hop⟩ := compileOper_eq hcr
      have hfr : (freeList ops).getD i false = true → isCall o.op = true := fun h => frees_call _ 0 i _ (by simpa using ho) h
      have ord_lt : ∀ (j : Nat) x,j < i → ops[j]? = some x → listed.getD j false = false → pairOk ops x o ((freeList ops).getD j false) ((freeList ops).getD i false) = true := fun j x hj hx hS => by
        rcases draw_ord hd hj hx ho with h | h
        · have := h _ hclo hedge; rw [hS] at this; cases this
        · exact h
      have ord_gt : ∀ (j : Nat) y,i < j → ops[j]? = some y → listed.getD j false = true → pairOk ops o y ((freeList ops).getD i false) ((freeList ops).getD j false) = true := fun j y hj hy hS => by
        rcases draw_ord hd hj ho hy with h | h
        · have := h _ hclo (hclo j y hy hS); rw [hSi] at this; cases this
        · exact h
      -- what it looks at is what it looked at in the order of the text
      have hslot : ∀ t,t ∈ o.looksAt ops → (envOf ((rs.zip (freeList ops)).take q) E V (fun j => listed.getD j false) q)[t]? = (E i)[t]? := fun t htl => by
        have := envOf_slot ht (s := fun j => listed.getD j false) (i := i) (t := t) (fun j hj hdj => by
          have hj' : j < ops.size := by omega
          have hoj : ops[j]? = some ops[j] := Array.getElem?_eq_getElem hj'
          obtain ⟨rj,hrj,hcj⟩ := gz j _ (by omega) hoj
          rw [hrj] at hdj
          replace hdj : ops[j].dst = some t := by rw [← (compileOper_eq hcj).1]; exact hdj
          refine ⟨fun hji => ?_,fun hij => ?_⟩
          · cases hS : listed.getD j false with
            | true => rfl
            | false =>
              have := (pairOk_spec (ord_lt j _ hji hoj hS)).1
              exact absurd htl ((Oper.apart_spec this).1 t hdj)
          · cases hS : listed.getD j false with
            | false => rfl
            | true =>
              have hne : j ≠ i := fun e => by rw [e,hSi] at hS; cases hS
              have := (pairOk_spec (ord_gt j _ (by omega) hoj hS)).1
              exact absurd htl ((Oper.apart_spec this).2.2 t hdj)) q (by omega)
        rwa [show min q i = i by omega] at this
      generalize hES : envOf ((rs.zip (freeList ops)).take q) E V (fun j => listed.getD j false) q = ES at *
      have heval : ∀ x ∈ o.op.operands.toList,evalA ES x = evalA (E i) x := fun x hx => by
        cases x with
        | tmp t =>
          have : t ∈ o.looksAt ops := List.mem_append_left _ (List.mem_filterMap.2 ⟨.tmp t,hx,rfl⟩)
          simp only [evalA,List.getD,hslot t this]
        | _ => rfl
      have hrops : ∀ x ∈ ropOps (opOf P o.op),evalA ES x = evalA (E i) x := fun x hx => by
        rcases formed_opOf (P := P) o.op with ⟨r',hr',hf⟩ | hr'
        · rw [hr'] at hx; exact heval x (hf.ops x hx)
        · rw [hr'] at hx; simp [ropOps] at hx; subst hx; rfl
      have hwant : wantedA r.guard ES = wantedA r.guard (E i) := by
        cases hg : r.guard with
        | none => rfl
        | some sw =>
          obtain ⟨s,want⟩ := sw
          have : s ∈ o.looksAt ops := by
            unfold compileOper at hcr
            split at hcr
            · cases hcr; cases hg
            · rename_i g wt hgo
              simp only [Option.map_eq_some_iff] at hcr
              obtain ⟨s',hs',rfl⟩ := hcr
              simp only [Option.some.injEq,Prod.mk.injEq] at hg
              obtain ⟨rfl,rfl⟩ := hg
              exact List.mem_append_right _ (by rw [hgo]; simp only; rw [hs']; simp)
          simp only [wantedA,hslot s this]
      -- where the heap stands
      have hturn : turns ((freeList ops).getD i false) o.op = true → G k = G i := fun hti => by
        have hki : k ≤ i := by
          have := (htk i o hin ho hti)
          rw [hSi] at this
          have : ¬ i < k := fun h => by simp [h] at this
          omega
        have := tr_still hc ht hq (p := k) (i - k) (by omega) fun j x h1 h2 h3 => by
          cases hx : turns ((freeList ops).getD j false) x.op with
          | false => rfl
          | true =>
            have hS : listed.getD j false = false := by
              cases hS : listed.getD j false with
              | false => rfl
              | true => have := (htk j x (by omega) h3 hx).1 hS; omega
            exact absurd ⟨hx,hti⟩ (pairOk_spec (ord_lt j x (by omega) h3 hS)).2.2.2
        rw [show k + (i - k) = i by omega] at this
        exact this.symm
      have hpre : heapy o.op = true → turns ((freeList ops).getD i false) o.op = false → (∃ N,G k = B i ++ N) ∧ ((∃ N,G k = G i ++ N) ∨ ∃ N,G i = G k ++ N) := fun hhp hti => by
        by_cases hki : k ≤ i
        · obtain ⟨⟨N,hN⟩,hBk⟩ := tr_grow hc ht hq (p := k) (i - k) (by omega) fun j x h1 h2 h3 => by
            cases hx : Lq.writes x.op with
            | false => rfl
            | true =>
              have htj : turns ((freeList ops).getD j false) x.op = true := by simp [turns,hx]
              have hS : listed.getD j false = false := by
                cases hS : listed.getD j false with
                | false => rfl
                | true => have := (htk j x (by omega) h3 htj).1 hS; omega
              exact absurd ⟨hx,hhp⟩ (pairOk_spec (ord_lt j x (by omega) h3 hS)).2.1
          rw [show k + (i - k) = i by omega] at hN hBk
          obtain ⟨N',hN'⟩ := tr_base hc ht hq hB k hk
          exact ⟨⟨N',by rw [hN',hBk]⟩,.inr ⟨N,hN⟩⟩
        · obtain ⟨⟨N,hN⟩,hBk⟩ := tr_grow hc ht hq (p := i) (k - i) (by omega) fun j x h1 h2 h3 => by
            cases hx : Lq.writes x.op with
            | false => rfl
            | true =>
              have htj : turns ((freeList ops).getD j false) x.op = true := by simp [turns,hx]
              have hne : j ≠ i := fun e => by subst e; rw [ho] at h3; cases h3; rw [hti] at htj; cases htj
              have hS : listed.getD j false = true := (htk j x (by omega) h3 htj).2 (by omega)
              exact absurd ⟨hhp,hx⟩ (pairOk_spec (ord_gt j x (by omega) h3 hS)).2.2.1
          rw [show i + (k - i) = k by omega] at hN hBk
          obtain ⟨N',hN'⟩ := tr_base hc ht hq hB i (by omega)
          exact ⟨⟨N' ++ N,by rw [hN,hN',List.append_assoc]⟩,.inl ⟨N,hN⟩⟩
      -- what is left of the order behind it
      obtain ⟨k',hk',hk'le,htk'⟩ : ∃ k',(k' = if turns ((freeList ops).getD i false) o.op = true then i + 1 else k) ∧ k' ≤ q ∧
          (∀ (j : Nat) x,j < q → ops[j]? = some x → turns ((freeList ops).getD j false) x.op = true → ((listed.setIfInBounds i true).getD j false = true ↔ j < k')) := by
        refine ⟨_,rfl,by split <;> omega,fun j x hjq hx htx => ?_⟩
        split
        · rename_i hti
          by_cases hji : i = j
          · subst hji; simp [hisz]
          · rw [getD_set_ne false hji]
            cases hS : listed.getD j false with
            | true =>
              have : ¬ i < j := fun h => absurd ⟨hti,htx⟩ (pairOk_spec (ord_gt j x h hx hS)).2.2.2
              simp; omega
            | false =>
              have : ¬ j < i := fun h => absurd ⟨htx,hti⟩ (pairOk_spec (ord_lt j x h hx hS)).2.2.2
              simp; omega
        · rename_i hti
          have hji : i ≠ j := fun e => by subst e; rw [ho] at hx; cases hx; exact hti htx
          rw [getD_set_ne false hji]
          exact htk j x hjq hx htx
      have next : ∀ (v cv : Value) (β' : Beta) (w' : World),v = V i → VR β' v cv → Inj P β' (G k') base w' → Post β (G k) w β' (G k') w' →
          wpAnyIn (wideF ro) rm P .any ops (Out P lo β₀ H₀ base w₀ Q) fuel (listed.setIfInBounds i true) (a.put o.dst cv) w' := fun v cv β' w' hv hvr hi' hp' => by
        subst hv
        refine ih _ (u.erase i) k' β' _ w' (by simpa using hsz) ?_ (fun j hj => by rw [getD_set_ne false (by omega)]; exact hhi j hj) ?_ ?_ hk'le htk' hi' ?_ ((hm.step hi hp').put) (hp.trans hi₀.dom hp')
        · intro j x hx hS e he' hb
          by_cases hji : i = j
          · subst hji; rw [ho] at hx; cases hx; exact getD_set_true (hedge e he' hb)
          · have hS' : (listed.setIfInBounds i true).getD j false = true := hS
            rw [getD_set_ne false hji] at hS'
            exact getD_set_true (hclo j x hx hS' e he' hb)
        · intro j hj hS
          have hji : j ≠ i := fun e => by subst e; simp [hisz] at hS
          rw [getD_set_ne false (Ne.symm hji)] at hS
          exact (List.mem_erase_of_ne hji).2 (hu j hj hS)
        · have := List.length_pos_of_mem (hu i hin hSi)
          rw [List.length_erase_of_mem (hu i hin hSi)]; omega
        · have := envOf_add (l := (rs.zip (freeList ops)).take q) (E := E) (V := V) (s := fun j => listed.getD j false) (s' := fun j => (listed.setIfInBounds i true).getD j false) (i := i) (by omega) hSi
            (by simp [hisz]) (fun j hj => getD_set_ne false (Ne.symm hj)) (fun j hij hj hS d hdd => by
              have hoj : ops[j]? = some ops[j] := Array.getElem?_eq_getElem (by omega)
              obtain ⟨rj,hrj,hcj⟩ := gz j _ (by omega) hoj
              rw [hri] at hdd
              rw [hrj]
              intro hdj
              have h1 := (pairOk_spec (ord_gt j _ hij hoj hS)).1
              exact (Oper.apart_spec h1).2.1 d (by rw [← hdst]; exact hdd) (by rw [← (compileOper_eq hcj).1]; exact hdj)) q (by omega)
          rw [this,if_pos hin,hES,hri]
          have hb : ((some (r,(freeList ops).getD i false)).bind fun x => x.1.dst) = o.dst := hdst
          rw [hb]
          exact EnvRel.put (EnvRel.mono (hp'.le hi.dom) he) o.dst hvr
      unfold wpOpIn
      simp only [ho]
      rcases hstep with ⟨hw,hv,hg,_⟩ | ⟨hw,hs,_⟩
      · have hwf := wanted_rel he hcr (hwant.trans hw)
        rw [if_neg (by rw [hwf]; simp)]
        have hGk : G k' = G k := by
          rw [hk']; split
          · rename_i hti; rw [hg,hturn hti]
          · rfl
        refine ⟨fun f _ => wideF_fn ro f,next undef undef β w hv.symm (vr_undef β) (hGk ▸ hi) (hGk ▸ Post.refl β (G k) w hi.dom)⟩
      · have hwt := wanted_rel he hcr (hwant.trans hw)
        rw [if_pos hwt]
        have hA : AOp P (opOf P o.op) ES (G k) (fun v H' => v = V i ∧ H' = G k') := by
          rcases step_cases hs with ⟨f,args,hcall⟩ | ⟨hne,hrun⟩
          · have hf := hrops f (by rw [hcall]; simp [ropOps])
            have hargs : args.map (evalA ES) = args.map (evalA (E i)) := List.map_congr_left fun x hx => hrops x (by rw [hcall]; simp [ropOps,hx])
            obtain ⟨c,hoc,hcal,_⟩ := opOf_call hcall
            have hlays : Lq.lays o.op = true := by rw [hoc]; simp [Lq.lays,hcal]
            have hwr : Lq.writes o.op = false := by rw [hoc]; simp [Lq.writes,hcal]
            rw [hcall] at hs ⊢
            show AInvoke P (evalA ES f) (args.map (evalA ES)) (G k) _
            rw [hf,hargs]
            simp only [AStep] at hs
            split at hs
            · rename_i hfree
              have hti : turns ((freeList ops).getD i false) o.op = false := by simp only [turns,hwr,hfree,Bool.not_true,Bool.and_false,Bool.or_self]
              have hkk : k' = k := by rw [hk',if_neg (by rw [hti]; simp)]
              rw [hkk]
              exact hs.2 (G k) (hpre (by simp [heapy,hlays]) hti).1
            · rename_i hfree
              have hti : turns ((freeList ops).getD i false) o.op = true := by
                have : (freeList ops).getD i false = false := by simpa using hfree
                simp only [turns,hlays,this,Bool.not_false,Bool.and_self,Bool.or_true]
              have hkk : k' = i + 1 := by rw [hk',if_pos hti]
              rw [hkk,hturn hti]
              exact hs.2
          · have hrun' : ropRun (opOf P o.op) (evalA ES) (G i) = some (V i,G (i + 1)) := by rw [ropRun_congr hrops]; exact hrun
            have key : ropRun (opOf P o.op) (evalA ES) (G k) = some (V i,G k') := by
              cases hti : turns ((freeList ops).getD i false) o.op with
              | true =>
                have hkk : k' = i + 1 := by rw [hk',if_pos hti]
                rw [hkk,hturn hti]; exact hrun'
              | false =>
                have hkk : k' = k := by rw [hk',if_neg (by rw [hti]; simp)]
                rw [hkk]
                have hnf : opOf P o.op ≠ .extract (.const junk) 0 := fun e => by rw [e,fail_run rfl] at hrun; cases hrun
                obtain ⟨c1,c2,c3⟩ := class_of hfr hti hne hnf
                cases hload : ropLoads (opOf P o.op) with
                | false => exact ropRun_any c1 c2 hload hrun'
                | true =>
                  rcases (hpre (c3 hload) hti).2 with ⟨N,hN⟩ | ⟨N,hN⟩
                  · rw [hN]; exact load_fwd hload hrun'
                  · rw [hN] at hrun'
                    refine load_back hload hrun' fun x hx id hid => ?_
                    have hxo : x ∈ o.op.operands.toList := by
                      rcases formed_opOf (P := P) o.op with ⟨r',hr',hf'⟩ | hr'
                      · rw [hr'] at hx; exact hf'.ops x hx
                      · exact absurd hr' hnf
                    have hv := eval_rel hi he (opOf_opd hnf x hxo)
                    rcases hid with ⟨off,hid⟩ | hid | ⟨off,cc,hid⟩
                    · rw [hid] at hv
                      generalize a.eval x = cv at hv
                      cases hv with
                      | ptr h => exact hi.dom _ _ h
                    · rw [hid] at hv
                      generalize a.eval x = cv at hv
                      cases hv with
                      | mapRef h h0 => exact hi.dom _ _ h
                    · rw [hid] at hv
                      generalize a.eval x = cv at hv
                      cases hv with
                      | slice hc h0 ha => obtain ⟨p,hp,_⟩ := ha (.inl Nat.one_pos); exact hi.dom _ _ hp
            unfold AOp
            split
            · rename_i f args hcall; exact absurd hcall (hne f args)
            · exact ⟨_,_,key,rfl,rfl⟩
        refine oper_sound hi he hA fun v cv β' H' w' hK hvr hi' hp' => ?_
        obtain ⟨hv,rfl⟩ := hK
        exact next v cv β' w' hv hvr hi' hp'
theorem chain_sound (hd : drawOk ops = true) (hc : ops.toList.mapM (compileOper P ops) = some rs) {p : Nat} (hv : p < ops.size → ∃ (b : Nat) (x : Oper),ops[b]? = some x ∧ vcall x.op = true ∧ (freeList ops).getD b false = true ∧ b ≤ p)
    {base lo : Nat} {β₀ : Beta} {H₀ : AHeap} {w₀ : World} (hi₀ : Inj P β₀ H₀ base w₀) {ro : Option Nat} {rm : Nat} :
    ∀ (n : Nat) (p' : Nat),p' + n = ops.size → p ≤ p' → ∀ (fuel : Nat) (listed : Array Bool) (β : Beta) (env : Env) (H : AHeap) (a : Act) (w : World),listed.size = ops.size → (∀ j,j < ops.size → (listed.getD j false = true ↔ j < p')) → n ≤ fuel →
      Inj P β H base w → EnvRel β env a.tmps → Marks lo a.defers w → Post β₀ H₀ w₀ β H w → AOps P (rs.drop p') (Q .normal) env H →
      wpAnyIn (wideF ro) rm P .any ops (Out P lo β₀ H₀ base w₀ Q) fuel listed a w
  | 0,p',hp',_,fuel,listed,β,env,H,a,w,hsz,hlst,_,hi,he,hm,hp,h => by
    have hrs : rs.length = ops.size := by have := (mapM_get hc).1; simpa using this
    rw [List.drop_eq_nil_of_le (by omega)] at h
    have hno : Region.ready .any ops listed = [] := by
      rw [List.eq_nil_iff_forall_not_mem]
      intro j hj
      obtain ⟨h1,o,ho,_⟩ := mem_ready.1 hj
      have hjs := (Array.getElem?_eq_some_iff.1 ho).1
      have := (hlst j hjs).2 (by omega)
      rw [(getD_flip h1).1] at this; cases this
    have out : Out P lo β₀ H₀ base w₀ Q .normal a w := ⟨.normal,_,_,β,rfl,h,hi,he,hp,hm⟩
    match fuel with
    | 0 => exact ⟨hno,out⟩
    | fuel + 1 => exact ⟨fun _ => out,fun i hir => by rw [hno] at hir; cases hir⟩
  | n + 1,p',hp',hpp,fuel,listed,β,env,H,a,w,hsz,hlst,hf,hi,he,hm,hp,h => by
    match fuel,hf with
    | fuel + 1,hf =>
    have hps : p' < ops.size := by omega
    have ho : ops[p']? = some ops[p'] := Array.getElem?_eq_getElem hps
    obtain ⟨b,x,hb,hvx,hfx,hbp⟩ := hv (by omega)
    have hlp : listed.getD p' false = false := by
      cases hl : listed.getD p' false with
      | false => rfl
      | true => have := (hlst p' hps).1 hl; omega
    have hclo : Clo ops (fun j => listed.getD j false) := fun j o hj hS e he' hbd => by
      have hjs := (Array.getElem?_eq_some_iff.1 hj).1
      have h1 := (hlst j hjs).1 hS
      have h2 := draw_back hd hj e he' hbd
      exact (hlst e.on (by omega)).2 (by omega)
    have hl2 : listed.getD p' true = false := by
      have : p' < listed.size := by omega
      simpa [this] using hlp
    have hready : p' ∈ Region.ready .any ops listed := mem_ready.2 ⟨hl2,_,ho,fun e he' hbd => by have := draw_back hd ho e he' hbd; exact (hlst e.on (by omega)).2 this⟩
    refine ⟨fun hr => (by rw [hr] at hready; cases hready),fun i hir => ?_⟩
    obtain ⟨hl0,o,hoi,hedge⟩ := mem_ready.1 hir
    obtain ⟨hSi,hisz⟩ := getD_flip hl0
    have his : i < ops.size := by omega
    have hip : i = p' := by
      rcases Nat.lt_trichotomy i p' with h1 | h1 | h1
      · rw [(hlst i his).2 h1] at hSi; cases hSi
      · exact h1
      · have := draw_chain hb hvx hfx (by omega) hoi hclo hedge p' h1
        rw [hlp] at this; cases this
    subst hip
    rw [hoi] at ho
    obtain rfl := Option.some.inj ho
    obtain ⟨e1,e2⟩ := mapM_get hc
    obtain ⟨r,hr1,hcr⟩ := e2 i ops[i] (by simp)
    have hdrop : rs.drop i = r :: rs.drop (i + 1) := by
      obtain ⟨hlt,hge⟩ := List.getElem?_eq_some_iff.1 hr1
      rw [List.drop_eq_getElem_cons hlt,hge]
    rw [hdrop] at h
    obtain ⟨bb,hw,ht,hff⟩ := h
    obtain ⟨hdst,hop⟩ := compileOper_eq hcr
    have next : ∀ (v cv : Value) (β' : Beta) (H' : AHeap) (w' : World),VR β' v cv → Inj P β' H' base w' → Post β H w β' H' w' → AOps P (rs.drop (i + 1)) (Q .normal) (env.put r.dst v) H' →
        wpAnyIn (wideF ro) rm P .any ops (Out P lo β₀ H₀ base w₀ Q) fuel (listed.setIfInBounds i true) (a.put ops[i].dst cv) w' := fun v cv β' H' w' hvr hi' hp2 hA => by
      refine chain_sound hd hc hv hi₀ n (i + 1) (by omega) (by omega) fuel _ β' _ H' _ w' (by simpa using hsz) (fun j hj => ?_) (by omega) hi' ?_ ((hm.step hi hp2).put) (hp.trans hi₀.dom hp2) hA
      · by_cases hji : i = j
        · subst hji; simp [hisz]
        · rw [getD_set_ne false hji,hlst j hj]; omega
      · rw [hdst]
        exact EnvRel.put (EnvRel.mono (hp2.le hi.dom) he) _ hvr
    unfold wpOpIn
    simp only [hoi]
    cases bb with
    | false =>
      have hwf := wanted_rel he hcr hw
      rw [if_neg (by rw [hwf]; simp)]
      exact ⟨fun f _ => wideF_fn ro f,next undef undef β H w (vr_undef β) hi (Post.refl β H w hi.dom) (hff rfl)⟩
    | true =>
      have hwt := wanted_rel he hcr hw
      rw [if_pos hwt]
      have hA := ht rfl
      rw [hop] at hA
      exact oper_sound hi he hA fun v cv β' H' w' hK hvr hi' hp2 => next v cv β' H' w' hvr hi' hp2 hK
theorem vcall_of {r : ROper} {o : Oper} (hcr : compileOper P ops o = some r) (hv : isVR r.op = true) : vcall o.op = true := by
  rw [(compileOper_eq hcr).2] at hv
  unfold isVR at hv
  split at hv
  · rename_i t args hcall
    obtain ⟨c,hoc,hcal,_⟩ := opOf_call hcall
    rw [hoc]
    simp [vcall,hcal]
  · cases hv
theorem soft_get {ops : Array Oper} (k : Nat) : (softOps ops)[k]? = (ops[k]?).map fun o => softOper ops (ancs ops.toList []) k o := by
  simp [softOps]
theorem soft_same {ops : Array Oper} {as : List Nat} {i : Nat} {o : Oper} : softOper ops as i o = o ∨ ∃ args t u z,o.op = .call ⟨.builtin .append,args,#[t,u]⟩ ∧ softOper ops as i o = { o with op := .call ⟨.builtin .append,args,#[t,u,z]⟩ } := by
  unfold softOper
  split
  · rename_i args t u h
    split
    · exact .inr ⟨args,t,u,t,h,rfl⟩
    · exact .inl rfl
  · exact .inl rfl
theorem soft_dst {ops : Array Oper} {as : List Nat} {i : Nat} {o : Oper} : (softOper ops as i o).dst = o.dst ∧ (softOper ops as i o).after = o.after ∧ (softOper ops as i o).guard = o.guard := by
  rcases soft_same (ops := ops) (as := as) (i := i) (o := o) with h | ⟨args,t,u,z,_,h⟩ <;> rw [h] <;> exact ⟨rfl,rfl,rfl⟩
theorem soft_size {ops : Array Oper} : (softOps ops).size = ops.size := by simp [softOps]
theorem soft_mem {ops : Array Oper} {listed : Array Bool} {j : Nat} : j ∈ Region.ready .any (softOps ops) listed ↔ j ∈ Region.ready .any ops listed := by
  rw [mem_ready,mem_ready,soft_get]
  constructor
  · rintro ⟨h1,o,ho,h2⟩
    obtain ⟨o0,h0,rfl⟩ := Option.map_eq_some_iff.1 ho
    rw [soft_dst.2.1] at h2
    exact ⟨h1,o0,h0,h2⟩
  · rintro ⟨h1,o,ho,h2⟩
    rw [ho]
    exact ⟨h1,_,rfl,by rw [soft_dst.2.1]; exact h2⟩
theorem soft_nil {ops : Array Oper} {listed : Array Bool} : Region.ready .any (softOps ops) listed = [] ↔ Region.ready .any ops listed = [] := by
  rw [List.eq_nil_iff_forall_not_mem,List.eq_nil_iff_forall_not_mem]
  exact forall_congr' fun j => not_congr soft_mem
theorem soft_wpIn {o : Oper} {args : Array Operand} {t u z : TypeId} (ho : o.op = .call ⟨.builtin .append,args,#[t,u]⟩) {F : Fence} {n : Nat} {P : Program} {Q : Exit → Act → World → Prop} {K : Act → World → Prop} {a : Act} {w : World}
    (h : ({ o with op := .call ⟨.builtin .append,args,#[t,u,z]⟩ } : Oper).wpIn F n P a w K Q) : o.wpIn F n P a w K Q := by
  have e1 : ∀ ρ,execOp ρ ({ o with op := .call ⟨.builtin .append,args,#[t,u,z]⟩ } : Oper) = execOp ρ o := fun ρ => by
    rw [exec_flag (o := { o with op := .call ⟨.builtin .append,args,#[t,u,z]⟩ }) rfl]
    have : ({ o with op := .call ⟨.builtin .append,args,#[t,u]⟩ } : Oper) = o := by cases o; simp only at ho; subst ho; rfl
    exact congrArg (execOp ρ) this
  have e2 : ∀ ρ,({ o with op := .call ⟨.builtin .append,args,#[t,u,z]⟩ } : Oper).semAt F.round ρ = o.semAt F.round ρ := fun ρ => by
    rw [Oper.semAt_eq _ _ _ (fun c hc => by cases hc),Oper.semAt_eq _ _ _ (fun c hc => by rw [ho] at hc; cases hc),e1]
  have e3 : ({ o with op := .call ⟨.builtin .append,args,#[t,u,z]⟩ } : Oper).about P w a.eval = o.about P w a.eval := by
    unfold Oper.about
    rw [ho]
    rfl
  unfold Oper.wpIn at h ⊢
  rw [e2,e3] at h
  exact h
theorem soft_op {ops : Array Oper} {F : Fence} {n : Nat} {P : Program} {Q : Exit → Act → World → Prop} {i : Nat} {K : Act → World → Prop} {a : Act} {w : World} (h : wpOpIn F n P (softOps ops) Q i K a w) : wpOpIn F n P ops Q i K a w := by
  unfold wpOpIn at h ⊢
  rw [soft_get] at h
  cases ho : ops[i]? with
  | none => rw [ho] at h; exact h
  | some o =>
    rw [ho] at h
    simp only [Option.map_some] at h ⊢
    have hy : yielded (softOps ops) a.tmps = yielded ops a.tmps := by
      funext j
      unfold yielded
      rw [soft_get]
      cases ops[j]? with
      | none => rfl
      | some x => simp only [Option.map_some,Option.bind_some,soft_dst.1]
    have hw : Region.wanted (softOper ops (ancs ops.toList []) i o) (yielded (softOps ops) a.tmps) = Region.wanted o (yielded ops a.tmps) := by
      rw [hy]; unfold Region.wanted; rw [soft_dst.2.2]
    rw [hw] at h
    rcases soft_same (ops := ops) (as := ancs ops.toList []) (i := i) (o := o) with e | ⟨args,t,u,z,h1,e⟩
    · rw [e] at h; exact h
    · rw [e] at h
      split at h
      · rename_i hc
        rw [if_pos hc]
        exact soft_wpIn h1 h
      · rename_i hc
        rw [if_neg hc]
        refine ⟨fun f hf => h.1 f ?_,h.2⟩
        rw [← hf]
        unfold Oper.about
        rw [h1]
        rfl
theorem soft_all {ops : Array Oper} {F : Fence} {n : Nat} {P : Program} {Q : Exit → Act → World → Prop} : ∀ {fuel : Nat} {listed : Array Bool} {a : Act} {w : World},wpAnyIn F n P .any (softOps ops) Q fuel listed a w → wpAnyIn F n P .any ops Q fuel listed a w
  | 0,_,_,_,h => ⟨soft_nil.1 h.1,h.2⟩
  | fuel + 1,listed,a,w,h => ⟨fun hr => h.1 (soft_nil.2 hr),fun i hi => soft_op (wpOpIn_mono (fun a w h => soft_all h) (h.2 i (soft_mem.2 hi)))⟩
theorem soft_any {ops O : Array Oper} (hO : O = ops ∨ O = softOps ops) {F : Fence} {n : Nat} {P : Program} {Q : Exit → Act → World → Prop} {a : Act} {w : World} (h : wpAnyIn F n P .any O Q O.size (Array.replicate O.size false) a w) :
    wpAnyIn F n P .any ops Q ops.size (Array.replicate ops.size false) a w := by
  rcases hO with rfl | rfl
  · exact h
  · rw [soft_size] at h
    exact soft_all h
theorem awp_draw {ar : Option Nat} {l : List (ROper × Bool)} {env : Env} {H : AHeap} (h : ADraw P l H (Q .normal) env H) : AWP P ar (.draw l) Q env H :=
  fun hm ro n base lo β w a code hc _ hi he hk => by
    obtain ⟨id,ops0,ops,rs,rfl,hO,hd,h1,rfl⟩ := compile_draw hc
    obtain ⟨E,G,B,V,e1,e2,e3,ht⟩ := h.trace
    have hlen := zip_len h1
    have hq : vix (rs.zip (freeList ops)) ≤ ops.size := by rw [← hlen]; exact vix_le _
    have hvp : vix (rs.zip (freeList ops)) < ops.size → ∃ x,ops[vix (rs.zip (freeList ops))]? = some x ∧ vcall x.op = true ∧ (freeList ops).getD (vix (rs.zip (freeList ops))) false = true := fun hlt => by
      obtain ⟨o,fr,g1,g2⟩ := vix_at (l := rs.zip (freeList ops)) (by omega)
      have ho : ops[vix (rs.zip (freeList ops))]? = some ops[vix (rs.zip (freeList ops))] := Array.getElem?_eq_getElem hlt
      obtain ⟨r,g3,g4⟩ := zip_get h1 ho
      rw [g1] at g3
      obtain ⟨rfl,g5⟩ := Prod.mk.inj (Option.some.inj g3)
      simp only [Bool.and_eq_true] at g2
      exact ⟨_,ho,vcall_of g4 g2.1,g5 ▸ g2.2⟩
    have hdrop : ((rs.zip (freeList ops)).drop (vix (rs.zip (freeList ops)))).map (·.1) = rs.drop (vix (rs.zip (freeList ops))) := by
      rw [List.map_drop]
      congr 1
      refine List.map_fst_zip ?_
      have := (mapM_get h1).1
      rw [freeList,freesOf_len]; omega
    refine wpIn_region_any hm (soft_any hO ?_)
    have hdr : ∀ j,(Array.replicate ops.size false).getD j false = false := fun j => by
      by_cases hj : j < ops.size <;> simp [hj]
    have hfinal := ht.fin
    rw [List.length_take,Nat.min_eq_left (by omega),hdrop] at hfinal
    refine draw_sound hd h1 ht (by rw [e2,e3]) hq (fun j y hqj hy s hs hedge i hi' => ?_) hi (fun fuel listed β' a' w' hsz hlst hf hi' he' hm' hp' => ?_) ops.size _ (List.range (vix (rs.zip (freeList ops)))) 0 β a _ (by simp) ?_ (fun j _ => hdr j) (fun j hj _ => List.mem_range.2 hj) (by simp; omega) (by omega) ?_ (e2 ▸ hi.drew _) ?_ (hk.drew _)
      (e2 ▸ Post.drew hi.dom _)
    · have hjs := (Array.getElem?_eq_some_iff.1 hy).1
      obtain ⟨x,hx,hxv,hxf⟩ := hvp (by omega)
      exact draw_chain hx hxv hxf hqj hy hs hedge i (by omega)
    · exact chain_sound hd h1 (p := vix (rs.zip (freeList ops))) (fun hlt => by obtain ⟨x,hx,hxv,hxf⟩ := hvp hlt; exact ⟨_,x,hx,hxv,hxf,Nat.le_refl _⟩) hi (ops.size - vix (rs.zip (freeList ops))) _ (by omega) (Nat.le_refl _) fuel listed β' _ _ a' w' hsz hlst hf hi' he' hm' hp' hfinal
    · intro j o _ hS
      have hS' : (Array.replicate ops.size false).getD j false = true := hS
      rw [hdr] at hS'; cases hS'
    · intro j o _ _ _
      rw [hdr]
      simp
    · rw [envOf_none hdr,e1]; exact he
end
end Go.Lq

namespace Go.Lq
open Go
theorem Inj.same {P β H base} {w w' : World} (hi : Inj P β H base w) (hsz : w.heap.size ≤ w'.heap.size) (h : ∀ id p,β id = some p → liveAt H id = true → w'.heap[p.b]? = w.heap[p.b]?) : Inj P β H base w' :=
  ⟨Nat.le_trans hi.base_le hsz,hi.globs,hi.glob,hi.dom,fun id p hid => Nat.lt_of_lt_of_le (hi.lt id p hid) hsz,fun id p hid => by
    cases hl : liveAt H id with
    | true => exact (hi.obj id p hid).same (h id p hid hl)
    | false => exact objRel_of_dead (by unfold liveAt at hl; exact hl) (hi.obj id p hid),hi.own⟩
theorem Inj.lay {P β H base} {w w' : World} (hi : Inj P β H base w) (ob : Obj) (hh : w'.heap = w.heap.push ob) : Inj P β H base w' :=
  hi.same (by rw [hh]; simp) fun id p hid _ => by rw [hh,Array.getElem?_push,if_neg (by have := hi.lt id p hid; omega)]
theorem Post.lay {P β H base} {w w' : World} (hi : Inj P β H base w) (ob : Obj) (hh : w'.heap = w.heap.push ob) (h1 : w'.os = w.os) (h2 : w'.tape = w.tape) (h3 : w'.output = w.output) : Post β H w β H w' :=
  { Post.refl β H w hi.dom with os := h1,tape := h2,output := h3,size := (by rw [hh]; simp),frame := fun b hb _ => (by rw [hh,Array.getElem?_push,if_neg (by omega)]) }
theorem Inj.live_ne {P β H base} {w : World} (hi : Inj P β H base w) {m : Nat} {ds : Option (List Deferred)} (hm : w.heap[m]? = some (.deferred ds)) : ∀ id p,β id = some p → liveAt H id = true → p.b ≠ m :=
  fun id p hid hl e => by
    subst e
    have hr := hi.obj id p hid
    unfold liveAt at hl
    split at hl
    · rename_i o esz vs hH
      rw [hH] at hr
      obtain ⟨cs,t,fz,h1,_⟩ := hr
      rw [hm] at h1; cases h1
    · rename_i r hH
      rw [hH] at hr
      obtain ⟨_,_,r',h1,_⟩ := hr
      rw [hm] at h1; cases h1
    · rename_i r hH
      rw [hH] at hr
      obtain ⟨_,_,r',clk,h1,_⟩ := hr
      rw [hm] at h1; cases h1
    · rename_i r hH
      rw [hH] at hr
      obtain ⟨t,fz,h1⟩ := hr
      rw [hm] at h1; cases h1
    · cases hl
theorem Inj.shut {P β H base} {w : World} (hi : Inj P β H base w) {m : Nat} {ds : Option (List Deferred)} (hm : w.heap[m]? = some (.deferred ds)) (o : Obj) : Inj P β H base (w.putObj m o) :=
  hi.same (by simp) fun id p hid hl => World.putObj_heap_other (hi.live_ne hm id p hid hl)
theorem Post.shut {β₀ H₀ w₀ β H} {w : World} (hp : Post β₀ H₀ w₀ β H w) {m : Nat} (hm : w₀.heap.size ≤ m) (o : Obj) : Post β₀ H₀ w₀ β H (w.putObj m o) :=
  { hp with os := hp.os,tape := hp.tape,output := hp.output,size := (by simpa using hp.size),frame := fun b hb hn => (by
      rw [World.putObj_heap_other (by omega)]; exact hp.frame b hb hn) }
theorem mutAt_loop {H : AHeap} {id : Nat} {r r' : ALoop} (hH : H[id]? = some (.loop r)) (j : Nat) : mutAt (H.set id (.loop r')) j = mutAt H j := by
  have hlt : id < H.length := (List.getElem?_eq_some_iff.1 hH).1
  by_cases e : id = j
  · subst e; unfold mutAt; rw [List.getElem?_set_self hlt,hH]
  · unfold mutAt; rw [List.getElem?_set_ne e]
theorem liveAt_loop {H : AHeap} {id : Nat} {r r' : ALoop} (hH : H[id]? = some (.loop r)) (j : Nat) : liveAt (H.set id (.loop r')) j = liveAt H j := by
  have hlt : id < H.length := (List.getElem?_eq_some_iff.1 hH).1
  by_cases e : id = j
  · subst e; unfold liveAt; rw [List.getElem?_set_self hlt,hH]
  · unfold liveAt; rw [List.getElem?_set_ne e]
theorem Inj.turn {P β H base} {w : World} (hi : Inj P β H base w) {id : Nat} {p : ALoc} {r r' : ALoop} {c c' : Loop} (hid : β id = some p) (hH : H[id]? = some (.loop r)) (_hc : w.heap[p.b]? = some (.loop c))
    (hr : LoopRel P β r' c') : Inj P β (H.set id (.loop r')) base (w.putObj p.b (.loop c')) := by
  have hlt : id < H.length := hi.dom _ _ hid
  have hm : mutAt H id = true := by unfold mutAt; rw [hH]
  refine ⟨by have := hi.base_le; simpa using this,by simpa using hi.globs,hi.glob,fun i q hq => by simpa using hi.dom i q hq,fun i q hq => by simpa using hi.lt i q hq,fun i q hq => ?_,fun i j q q' h1 h2 hb hne h3 h4 => ?_⟩
  · by_cases e : id = i
    · subst e
      rw [hid] at hq; cases hq
      have ho := hi.obj _ _ hid
      rw [hH] at ho
      rw [List.getElem?_set_self hlt]
      exact ⟨ho.1,ho.2.1,c',World.putObj_heap_same (hi.lt _ _ hid),hr⟩
    · rw [List.getElem?_set_ne e]
      cases hl : liveAt H i with
      | false => exact objRel_of_dead (by unfold liveAt at hl; exact hl) (hi.obj _ _ hq)
      | true => exact (hi.obj _ _ hq).same (World.putObj_heap_other fun hbb => hi.own id i p q hid hq hbb.symm e hm hl)
  · rw [mutAt_loop hH] at h3; rw [liveAt_loop hH] at h4
    exact hi.own i j q q' h1 h2 hb hne h3 h4
theorem Post.turn {P β H base} {w : World} (hi : Inj P β H base w) {id : Nat} {p : ALoc} {r r' : ALoop} {c' : Loop} (hid : β id = some p) (hH : H[id]? = some (.loop r)) :
    Post β H w β (H.set id (.loop r')) (w.putObj p.b (.loop c')) where
  os := rfl
  tape := rfl
  output := rfl
  size := by simp
  len := by simp
  old := fun _ _ => rfl
  dead := fun j hj h => by rwa [mutAt_loop hH] at h
  live := fun j hj h => by rwa [liveAt_loop hH] at h
  frame := fun k hk hn => World.putObj_heap_other fun e => hn id p hid e.symm (by unfold mutAt; rw [hH])
  fresh := fun i q hid hb hlt => absurd (hi.dom _ _ hb) (by omega)
/-! ### Functions -/
inductive RRes where
  | tmp (t : Nat)
  | load (a : Nat)
  | loadN (n a : Nat)
structure RFunc where
  code : RCode
  ntmps : Nat
  res : List RRes
def compileRes (P : Program) : ResultVar → Option RRes
  | .tmp t => some (.tmp t)
  | .cell a t => match aggAt P t,sizeAt P t with
    | some true,some n => some (.loadN n a)
    | some false,_ => some (.load a)
    | _,_ => none
def compileFn (P : Program) (fn : Func) : Option RFunc :=
  match fn.body with
  | some c => match compile P c,fn.results.toList.mapM (compileRes P) with
    | some r,some rs => if (fn.name == "runtime.NumGoroutine") = false then some { code := r,ntmps := fn.ntmps,res := rs } else none
    | _,_ => none
  | none => none
def resA (env : Env) (H : AHeap) : RRes → Option Value
  | .tmp t => some (env.getD t undef)
  | .load a => match env.getD a undef with | .pointer (some ⟨id,off,none⟩) => cellAt H id off | _ => none
  | .loadN n a => match env.getD a undef with | .pointer (some ⟨id,off,none⟩) => (cellsAt H id off n).map fun vs => .agg vs.toArray | _ => none
def resultA (env : Env) (H : AHeap) (rs : List RRes) : Option Value :=
  (rs.mapM (resA env H)).map fun | [v] => v | vs => .tuple vs.toArray
def Fin (rf : RFunc) (Q : Value → AHeap → Prop) (x : AExit) (env : Env) (H : AHeap) : Prop :=
  (x = .normal ∨ x = .ret) ∧ ∃ v,resultA env H rf.res = some v ∧ Q v H
section
variable {P : Program} {β : Beta} {H : AHeap} {base : Nat} {w : World} {env : Env} {tmps : Array Value}
def resSem (tmps : Array Value) : ResultVar → Sem Value
  | .tmp t => pure (tmps.getD t undef)
  | .cell a t => do loadVar t (← asAddr (tmps.getD a undef))
theorem res_sound (hi : Inj P β H base w) (he : EnvRel β env tmps) {rv : ResultVar} {r : RRes} (hc : compileRes P rv = some r) {v : Value} (hv : resA env H r = some v) :
    ∃ cv,(resSem tmps rv).run P w = .ok cv w ∧ VR β v cv := by
  cases rv with
  | tmp t =>
    simp only [compileRes,Option.some.injEq] at hc
    subst hc
    simp only [resA,Option.some.injEq] at hv
    subst hv
    exact ⟨_,rfl,he.get t⟩
  | cell a t =>
    simp only [compileRes] at hc
    have e1 := he.get a
    split at hc
    · rename_i n ht hn
      simp only [Option.some.injEq] at hc
      subst hc
      simp only [resA] at hv
      split at hv
      · rename_i id off h1
        simp only [Option.map_eq_some_iff] at hv
        obtain ⟨us,hu,rfl⟩ := hv
        rw [h1] at e1
        obtain ⟨p,hp,_,e⟩ := e1.ptr_inv
        obtain ⟨cvs,hl,hl',hv,hc⟩ := cells_rel hi hp hu
        have hld := run_loadCells_list (P := P) w ⟨p.b,p.o + off,none⟩ cvs hc
        rw [hl'] at hld
        refine ⟨.agg cvs.toArray,by simp [resSem,e,asAddr,loadVar,isAgg_run ht,sizeOf_run hn,hld],.agg (by simpa using hv.1) fun i v v' e1 e2 => ?_⟩
        exact hv.2 i v v' (by simpa using e1) (by simpa using e2)
      · cases hv
    · rename_i ht
      simp only [Option.some.injEq] at hc
      subst hc
      simp only [resA] at hv
      split at hv
      · rename_i id off h1
        rw [h1] at e1
        obtain ⟨p,hp,_,e⟩ := e1.ptr_inv
        obtain ⟨cv,hc,hv⟩ := cell_rel hi hp hv
        exact ⟨cv,by simp [resSem,e,asAddr,loadVar,isAgg_run ht,hc],hv⟩
      · cases hv
    · cases hc
theorem ress_sound (hi : Inj P β H base w) (he : EnvRel β env tmps) : ∀ {rvs : List ResultVar} {rs : List RRes} {vs : List Value},rvs.mapM (compileRes P) = some rs → rs.mapM (resA env H) = some vs →
    ∃ cvs,(rvs.mapM (resSem tmps)).run P w = .ok cvs w ∧ VRs β vs cvs
  | [],rs,vs,hc,hv => by
    simp at hc; subst hc
    simp at hv; subst hv
    exact ⟨[],rfl,rfl,fun i v v' h => by simp at h⟩
  | rv :: rvs,rs,vs,hc,hv => by
    obtain ⟨r,rs',h1,h2,rfl⟩ := mapM_cons_some hc
    obtain ⟨v,vs',h3,h4,rfl⟩ := mapM_cons_some hv
    obtain ⟨cv,e1,e2⟩ := res_sound hi he h1 h3
    obtain ⟨cvs,e3,e4⟩ := ress_sound hi he h2 h4
    refine ⟨cv :: cvs,by simp [List.mapM_cons,Sem.run_bind,e1,e3,Result.andThen],by simp [e4.1],fun i x x' hx hx' => ?_⟩
    cases i with
    | zero => simp at hx hx'; subst hx; subst hx'; exact e2
    | succ i => exact e4.2 i x x' (by simpa using hx) (by simpa using hx')
theorem result_sound (hi : Inj P β H base w) (he : EnvRel β env tmps) {fn : Func} {rs : List RRes} {v : Value} (hc : fn.results.toList.mapM (compileRes P) = some rs) (hv : resultA env H rs = some v) :
    ∃ cv,(results fn tmps).run P w = .ok cv w ∧ VR β v cv := by
  simp only [resultA,Option.map_eq_some_iff] at hv
  obtain ⟨vs,h1,h2⟩ := hv
  obtain ⟨cvs,e1,e2⟩ := ress_sound hi he hc h1
  have hrun : (results fn tmps).run P w = .ok (if h : cvs.toArray.size = 1 then cvs.toArray[0] else .tuple cvs.toArray) w := by
    have hm : fn.results.mapM (resSem tmps) = (List.toArray <$> fn.results.toList.mapM (resSem tmps)) := Array.mapM_eq_mapM_toList
    have hres : results fn tmps = (do let vs ← fn.results.mapM (resSem tmps); pure (if h : vs.size = 1 then vs[0] else .tuple vs)) := by
      unfold results
      congr 1
    rw [hres,Sem.run_bind,hm]
    have hmap : (List.toArray <$> fn.results.toList.mapM (resSem tmps)).run P w = .ok cvs.toArray w := by
      rw [map_eq_pure_bind,Sem.run_bind,e1]
      rfl
    rw [hmap]
    rfl
  rw [hrun]
  refine ⟨_,rfl,?_⟩
  have hlen := e2.1
  subst h2
  match vs,cvs,hlen,e2 with
  | [],[],_,_ => exact .tuple rfl fun i v v' h => by simp at h
  | [x],[y],_,e2 => exact e2.2 0 x y rfl rfl
  | x :: y :: l,x' :: y' :: l',hlen,e2 =>
    have : ¬ (x' :: y' :: l').toArray.size = 1 := by simp
    rw [dif_neg this]
    exact .tuple (by simpa using hlen) fun i v v' h h' => e2.2 i v v' (by simpa using h) (by simpa using h')
end
end Go.Lq

namespace Go.Lq
open Go
section
variable {P : Program}
theorem leaves_marks {fn : Func} {rf : RFunc} {Q : Value → AHeap → Prop} {base lo : Nat} {β₀ β : Beta} {H₀ H : AHeap} {w₀ : World} {env : Env} {tmps : Array Value} {v : Value}
    (hres : fn.results.toList.mapM (compileRes P) = some rf.res) (hlo : lo = w₀.heap.size) (he : EnvRel β env tmps) (hv : resultA env H rf.res = some v) (hq : Q v H) {n : Nat} :
    ∀ (ms : List Nat) (w : World),Inj P β H base w → Post β₀ H₀ w₀ β H w → ms.Nodup → (∀ m ∈ ms,lo ≤ m ∧ w.heap[m]? = some (.deferred (some []))) →
      LeavesInM (wideF none) n P fn tmps (Back P β₀ H₀ base w₀ Q) (ms.map fun m => ({ target := .collected m,args := #[] } : Deferred)) .returning w
  | [],w,hi,hp,_,_ => by
    obtain ⟨cv,h1,h2⟩ := result_sound hi he hres hv
    exact ⟨cv,h1,v,cv,β,H,rfl,hq,h2,hi,hp⟩
  | m :: ms,w,hi,hp,hn,hm => by
    obtain ⟨h1,h2⟩ := hm m (by simp)
    refine ⟨by simp,.inl ⟨m,w.putObj m (.deferred none),rfl,run_takeDeferred h2,leaves_marks hres hlo he hv hq ms _ (hi.shut h2 _) (hp.shut (by omega) _) (List.nodup_cons.1 hn).2 fun k hk => ?_⟩⟩
    obtain ⟨h3,h4⟩ := hm k (by simp [hk])
    refine ⟨h3,?_⟩
    have hne : k ≠ m := fun e => by subst e; exact (List.nodup_cons.1 hn).1 hk
    rw [World.putObj_heap_other hne]
    exact h4
theorem acall_intro {f : FuncId} {fn : Func} {rf : RFunc} {args : List Value} {H : AHeap} {Q : Value → AHeap → Prop} (hm : P.follows .mixedOrders = true) (hf : P.funcs[f]? = some fn)
    (hc : compileFn P fn = some rf) (h : AWP P none rf.code (Fin rf Q) (args ++ List.replicate (rf.ntmps - args.length) undef) H) : ACall P f args H Q := by
  unfold compileFn at hc
  split at hc
  · rename_i c hb
    split at hc
    · rename_i r rs hr hrs
      split at hc
      · rename_i hname
        simp only [Option.some.injEq] at hc
        subst hc
        refine ⟨⟨fn,hf,by rw [hb]; rfl,hname⟩,fun base β w cargs hi hv => ?_⟩
        have hsz : cargs.size = args.length := by have := hv.1; simpa using this.symm
        refine callsIn_wideF (ro := none) (n := 0) |>.1 (callsIn_of_wp_marks hf hb (wideF_fn none f) (wpIn_mono (h hm none 0 base w.heap.size β w _ c hr trivial hi ?_ ⟨Nat.le_refl _,[],rfl,by simp,by simp⟩) fun e a' w' o => ?_))
        · show VRs β _ _
          rw [Array.toList_append,hsz]
          refine hv.append ?_
          refine ⟨by simp,fun i v v' h1 h2 => ?_⟩
          simp only [Array.toList_replicate,List.getElem?_replicate] at h1 h2
          split at h1
          · rename_i hlt; rw [if_pos hlt] at h2; cases h1; cases h2; exact vr_undef β
          · cases h1
        · obtain ⟨x,env',H',β',rfl,⟨hx,v,hval,hq⟩,hi',he',hp,_,ms,hms,hnd,hall⟩ := o
          have := leaves_marks (n := 0) hrs rfl he' hval hq ms w' hi' hp hnd hall
          rw [← hms] at this
          rcases hx with rfl | rfl <;> exact this
      · cases hc
    · cases hc
  · cases hc
def RoundEnd (l : Nat) (Q : Value → AHeap → Prop) (x : AExit) (_ : Env) (H : AHeap) : Prop :=
  ∃ r,H[l]? = some (.loop r) ∧ Q (.bool (x == .normal)) (H.set l (.loop { r with state := if x == .normal then .ready else .done,pending := if x == .normal then none else some x }))
def assignParams (env : Env) (ps : List Nat) (args : List Value) : Env := (ps.zip args).foldl (fun e (t,a) => e.set t a) env
theorem zip_toList {α γ : Type} (xs : Array α) (ys : Array γ) : (xs.zip ys).toList = xs.toList.zip ys.toList := by simp
theorem assign_rel {β : Beta} : ∀ (ps : List Nat) (args cargs : List Value) (env : Env) (tmps : Array Value),VRs β args cargs → EnvRel β env tmps →
    EnvRel β (assignParams env ps args) ((ps.zip cargs).foldl (fun tmps (t,a) => tmps.setIfInBounds t a) tmps)
  | [],args,cargs,env,tmps,_,he => by simpa [assignParams] using he
  | p :: ps,[],cargs,env,tmps,ha,he => by
    have : cargs = [] := List.length_eq_zero_iff.1 (by have := ha.1; simpa using this.symm)
    subst this
    simpa [assignParams] using he
  | p :: ps,x :: args,[],env,tmps,ha,_ => by have := ha.1; simp at this
  | p :: ps,x :: args,y :: cargs,env,tmps,ha,he => by
    have h1 : VR β x y := ha.2 0 x y rfl rfl
    have h2 : VRs β args cargs := ⟨by have := ha.1; simpa using this,fun i v v' e1 e2 => ha.2 (i + 1) v v' (by simpa using e1) (by simpa using e2)⟩
    have h3 : EnvRel β (env.set p x) (tmps.setIfInBounds p y) := EnvRel.put (a := { tmps := tmps,defers := [] }) he (some p) h1
    simpa [assignParams] using assign_rel ps args cargs _ _ h2 h3
theorem around_intro {l : Nat} {r : ALoop} {args : List Value} {H : AHeap} {Q : Value → AHeap → Prop} (hm : P.follows .mixedOrders = true) (hl : H[l]? = some (.loop r))
    (hlen : args.length = r.params.length)
    (h : AWP P (some l) r.assign (fun x env1 H1 => x = .normal ∧ ∃ r1,H1[l]? = some (.loop r1) ∧ r1.state = .ready ∧ AWP P (some l) r.body (RoundEnd l Q) env1 (H1.set l (.loop { r1 with state := .busy })))
      (assignParams r.env r.params args) H) : ARound P l args H Q := fun base β w cargs p hi hp hv => by
  have ho := hi.obj _ _ hp
  rw [hl] at ho
  obtain ⟨h0,hb,c,hc,hrel⟩ := ho
  have hsz : cargs.size = c.params.size := by
    have h1 := hv.1
    have h2 := congrArg List.length hrel.params
    simp at h1 h2; omega
  refine ⟨c.fn,_,c.assign,c.body,run_yield hc hsz,fun ro n => roundIn_of_wpIn (wideF_fn ro c.fn) ?_⟩
  have hro : RoRel β (some l) (some p.b) := ⟨p,hp,rfl⟩
  have henv : EnvRel β (assignParams r.env r.params args) ((c.params.zip cargs).foldl (fun tmps (t,a) => tmps.setIfInBounds t a) c.tmps) := by
    have := assign_rel r.params args cargs.toList r.env c.tmps hv hrel.env
    rw [← hrel.params] at this ⊢
    rw [← Array.foldl_toList,zip_toList]
    exact this
  refine wpIn_mono (h hm (some p.b) n base w.heap.size β w { tmps := _,defers := [] } c.assign hrel.assign hro hi henv ⟨Nat.le_refl _,[],rfl,by simp,by simp⟩) fun e a1 w1 o => ?_
  obtain ⟨x,env1,H1,β1,rfl,⟨rfl,r1,hl1,hst,hbody⟩,hi1,he1,hp1,hk1⟩ := o
  have hp' : β1 l = some p := (hp1.old l (hi.dom _ _ hp)).trans hp
  have ho1 := hi1.obj _ _ hp'
  rw [hl1] at ho1
  obtain ⟨_,_,c1,hc1,hrel1⟩ := ho1
  refine ⟨w1.putObj p.b (.loop { c1 with state := .busy }),run_beginRound hc1 (by rw [hrel1.state,hst]),?_⟩
  have hreld : LoopRel P β1 { r1 with state := .busy } { c1 with state := .busy } := ⟨rfl,hrel1.pending,hrel1.env,hrel1.params,hrel1.assign,hrel1.body⟩
  have hi2 := hi1.turn hp' hl1 hc1 hreld
  have hp2 := Post.turn (r' := { r1 with state := .busy }) (c' := { c1 with state := .busy }) hi1 hp' hl1
  have hk2 := hk1.step hi1 hp2
  refine wpIn_mono (hbody hm (some p.b) n base _ β1 _ _ c.body hrel.body (hro.mono (hp1.le hi.dom)) hi2 he1 hk2) fun e a3 w3 o => ?_
  obtain ⟨x,env3,H3,β3,rfl,⟨r3,hl3,hq⟩,hi3,he3,hp3,hk3⟩ := o
  have hp3' : β3 l = some p := (hp3.old l (hi2.dom _ _ hp')).trans hp'
  have ho3 := hi3.obj _ _ hp3'
  rw [hl3] at ho3
  obtain ⟨_,_,c3,hc3,hrel3⟩ := ho3
  have last : ∀ (jump : Option Code),jump = pendUp (if x == .normal then none else some x) → jump.isNone = (x == .normal) →
      ∃ v w',(Instr.endRound p.b jump).run P w3 = .ok v w' ∧ Back P β H base w Q (.returned v) w' := fun jump hj hn => by
    refine ⟨_,_,run_endRound jump hc3,.bool (x == .normal),_,β3,_,rfl,hq,by rw [hn]; exact .bool _,?_,?_⟩
    · refine hi3.turn hp3' hl3 hc3 ⟨?_,?_,hrel3.env,hrel3.params,hrel3.assign,hrel3.body⟩
      · rw [hn]
      · exact hj
    · exact (hp1.trans hi.dom (hp2.trans hi1.dom hp3)).trans hi.dom (Post.turn hi3 hp3' hl3)
  cases x with
  | normal => exact last none rfl rfl
  | exit id => exact last (some (.exit id)) rfl rfl
  | ret => exact last (some .ret) rfl rfl
end
end Go.Lq

namespace Go.Lq
open Go
def RangeEnd (l : Nat) (env : Env) (Q : AExit → Env → AHeap → Prop) (H : AHeap) : Prop :=
  ∃ r,H[l]? = some (.loop r) ∧ r.state ≠ .busy ∧ r.pending ≠ some .normal ∧ Q (r.pending.getD .normal) env (H.set l (.loop { r with state := .exhausted }))
section
variable {P : Program}
theorem run_enterLoop_inner {w : World} {b : Nat} {r : Loop} (h : w.heap[b]? = some (.loop r)) (fn : FuncId) (tmps : Array Value) (ps : Array Tmp) (assign body : Code) :
    (Instr.enterLoop fn tmps ps assign body (some b)).run P w =
      .ok (w.heap.size,[]) (w.alloc (.loop { state := .ready,pending := none,fn,tmps,params := ps,assign,body,defers := r.defers })) := by
  unfold Instr.enterLoop
  simp only [Sem.run_bind,run_getLoop h,run_newObj_alloc,Result.andThen,Sem.run_pure]
theorem enter_sound {β : Beta} {H : AHeap} {base lo : Nat} {w : World} {ar ro : Option Nat} {env : Env} {a : Act} {ps : Array Tmp} {asg bd : Code} {assign body : RCode} (hi : Inj P β H base w)
    (hro : RoRel β ar ro) (har : ∀ l,ar = some l → ∃ r,H[l]? = some (.loop r)) (he : EnvRel β env a.tmps) (hk : Marks lo a.defers w) (h1 : compile P asg = some assign) (h2 : compile P bd = some body) (fn : FuncId) :
    ∃ lb mark w1,(Instr.enterLoop fn a.tmps ps asg bd ro).run P w = .ok (lb,mark) w1 ∧
      Inj P (β.ext H.length ⟨lb,0,0⟩) (H ++ [.loop { state := .ready,pending := none,env := env,params := ps.toList,assign := assign,body := body }]) base w1 ∧
      Post β H w (β.ext H.length ⟨lb,0,0⟩) (H ++ [.loop { state := .ready,pending := none,env := env,params := ps.toList,assign := assign,body := body }]) w1 ∧ Marks lo (mark ++ a.defers) w1 := by
  have rel : ∀ (w1 : World) (d : Nat),Inj P β H base w1 → ∀ c : Loop,c = { state := .ready,pending := none,fn := fn,tmps := a.tmps,params := ps,assign := asg,body := bd,defers := d } →
      ObjRel P (β.ext H.length ⟨w1.heap.size,0,0⟩) base (w1.alloc (.loop c)) ⟨w1.heap.size,0,0⟩ (some (.loop { state := .ready,pending := none,env := env,params := ps.toList,assign := assign,body := body })) :=
    fun w1 d hi1 c hc => ⟨rfl,hi1.base_le,c,World.alloc_heap_new w1 _,by subst hc; exact ⟨rfl,rfl,EnvRel.mono (Beta.ext_le hi.none_at) he,rfl,h1,h2⟩⟩
  cases ar with
  | none =>
    cases ro with
    | some b => exact hro.elim
    | none =>
      have hA : Inj P β H base (w.alloc (.deferred (some []))) := hi.lay _ rfl
      have hpA : Post β H w β H (w.alloc (.deferred (some []))) := Post.lay hi _ rfl rfl rfl rfl
      have hsz : (w.alloc (.deferred (some []))).heap.size = w.heap.size + 1 := by simp [World.size_alloc]
      refine ⟨w.heap.size + 1,_,_,run_enterLoop_outer fn a.tmps ps asg bd,?_,?_,?_⟩
      · rw [← hsz]
        exact hA.push _ 0 _ rfl (rel _ w.heap.size hA _ rfl)
      · rw [← hsz]
        exact hpA.trans hi.dom (Post.push hA _ 0 _ rfl rfl rfl rfl)
      · obtain ⟨hlo,ms,e1,e2,e3⟩ := hk
        refine ⟨by simp [World.size_alloc]; omega,w.heap.size :: ms,by simp [e1],List.nodup_cons.2 ⟨fun hm => ?_,e2⟩,fun m hm => ?_⟩
        · have := (Array.getElem?_eq_some_iff.1 (e3 _ hm).2).1; omega
        · rcases List.mem_cons.1 hm with rfl | hm
          · refine ⟨hlo,?_⟩
            show ((w.heap.push _).push _)[w.heap.size]? = _
            rw [Array.getElem?_push,if_neg (by simp),Array.getElem?_push,if_pos rfl]
          · obtain ⟨e4,e5⟩ := e3 m hm
            refine ⟨e4,?_⟩
            have hlt := (Array.getElem?_eq_some_iff.1 e5).1
            show ((w.heap.push _).push _)[m]? = _
            rw [Array.getElem?_push,if_neg (by simp; omega),Array.getElem?_push,if_neg (by omega)]
            exact e5
  | some l =>
    cases ro with
    | none => exact hro.elim
    | some b =>
      obtain ⟨p,hp,rfl⟩ := hro
      obtain ⟨r,hr⟩ := har l rfl
      have ho := hi.obj _ _ hp
      rw [hr] at ho
      obtain ⟨_,_,c,hc,_⟩ := ho
      refine ⟨w.heap.size,_,_,run_enterLoop_inner hc fn a.tmps ps asg bd,hi.push _ 0 _ rfl (rel _ c.defers hi _ rfl),Post.push hi _ 0 _ rfl rfl rfl rfl,?_⟩
      obtain ⟨hlo,ms,e1,e2,e3⟩ := hk
      refine ⟨by simp [World.size_alloc]; omega,ms,by simp [e1],e2,fun m hm => ?_⟩
      obtain ⟨e4,e5⟩ := e3 m hm
      refine ⟨e4,?_⟩
      have hlt := (Array.getElem?_eq_some_iff.1 e5).1
      show (w.heap.push _)[m]? = _
      rw [Array.getElem?_push,if_neg (by omega)]
      exact e5
theorem awp_rangeFunc {ar : Option Nat} {g : Operand} {f : FuncId} {xs ys : Array Value} {ps : List Nat} {assign body : RCode} {Q : AExit → Env → AHeap → Prop} {env : Env} {H : AHeap}
    (hg : evalA env g = .func (.func f) xs ys) (har : ∀ l,ar = some l → ∃ r,H[l]? = some (.loop r))
    (h : ACall P f (xs.toList ++ [.func (.yield H.length) #[] #[]] ++ ys.toList) (H ++ [.loop { state := .ready,pending := none,env := env,params := ps,assign := assign,body := body }]) fun _ H' => RangeEnd H.length env Q H') :
    AWP P ar (.rangeFunc g ps assign body) Q env H := fun _ ro n base lo β w a code hc hro hi he hk => by
  obtain ⟨qs,asg,bd,rfl,rfl,hok,h1,h2⟩ := compile_rangeFunc hc
  refine wpIn_rangeFunc fun fn _ => ?_
  obtain ⟨lb,mark,w1,hrun,hi1,hp1,hk1⟩ := enter_sound (fn := fn) (ps := qs) hi hro har he hk h1 h2
  have hfv := eval_rel hi he hok
  rw [hg] at hfv
  generalize hcf : a.eval g = cf at hfv
  cases hfv with
  | func hfn hx hy r1 r2 =>
  rename_i fn' xs' ys'
  cases hfn
  obtain ⟨⟨fb,e1,e2,e3⟩,hcall⟩ := h
  obtain ⟨c,hcb⟩ := Option.isSome_iff_exists.1 e2
  have hne : fb.name ≠ "runtime.NumGoroutine" := by simpa using e3
  refine ⟨lb,mark,w1,{ target := .fn (.func f) ys',args := xs' ++ #[.func (.yield lb) #[] #[]] },w1,f,xs' ++ #[.func (.yield lb) #[] #[]] ++ ys',w1,hrun,?_,fun f' _ => wideF_fn ro f',?_,fun hd => (by cases hd),?_⟩
  · have hmap : (#[Operand.const (Value.func (.yield lb) #[] #[])]).map a.eval = #[Value.func (.yield lb) #[] #[]] := by simp [Act.eval]
    simp only [resolve,hcf,hmap]; rfl
  · simp [invoke,callFunc,e1,hne,hcb]
  · refine callsIn_wideF.2 ?_
    have hle : β.le (β.ext H.length ⟨lb,0,0⟩) := Beta.ext_le hi.none_at
    have hargs : VRs (β.ext H.length ⟨lb,0,0⟩) (xs.toList ++ [Value.func (.yield H.length) #[] #[]] ++ ys.toList) (xs' ++ #[Value.func (.yield lb) #[] #[]] ++ ys').toList := by
      simp only [Array.toList_append]
      refine (((VRs.ofArray hx r1).mono hle).append ?_).append ((VRs.ofArray hy r2).mono hle)
      refine ⟨rfl,fun i v v' a1 a2 => ?_⟩
      cases i with
      | zero =>
        simp at a1 a2; subst a1; subst a2
        exact .func (.yield (p := ⟨lb,0,0⟩) Beta.ext_self rfl) rfl rfl (fun i v v' a _ => by simp at a) (fun i v v' a _ => by simp at a)
      | succ i => simp at a1
    refine (hcall base _ w1 _ hi1 hargs).mono fun e w3 hb => ?_
    obtain ⟨v,cv,β3,H3,rfl,⟨r,hl,hst,hpn,hq⟩,_,hi3,hp3⟩ := hb
    have hp3' : β3 H.length = some ⟨lb,0,0⟩ := (hp3.old _ (by simp)).trans Beta.ext_self
    have ho := hi3.obj _ _ hp3'
    rw [hl] at ho
    obtain ⟨_,_,c3,hc3,hrel⟩ := ho
    have hi4 := hi3.turn hp3' hl hc3 (r' := { r with state := .exhausted }) (c' := { c3 with state := .exhausted }) ⟨rfl,hrel.pending,hrel.env,hrel.params,hrel.assign,hrel.body⟩
    have hp4 := Post.turn (r' := { r with state := .exhausted }) (c' := { c3 with state := .exhausted }) hi3 hp3' hl
    have hpall := (hp1.trans hi.dom (hp3.trans hi1.dom hp4))
    have hk4 : Marks lo (mark ++ a.defers) (w3.putObj lb (.loop { c3 with state := .exhausted })) := (hk1.step hi1 hp3).step hi3 hp4
    have he4 : EnvRel β3 env a.tmps := EnvRel.mono (hpall.le hi.dom) he
    have key : ∀ (pd : Option AExit) (H4 : AHeap) (w4 : World),pd ≠ some .normal → Q (pd.getD .normal) env H4 → Inj P β3 H4 base w4 → Post β H w β3 H4 w4 → Marks lo (mark ++ a.defers) w4 →
        (match pendUp pd with
         | none => Out P lo β H base w Q .normal { a with defers := mark ++ a.defers } w4
         | some c => c.wpIn (wideF ro) n P (Out P lo β H base w Q) { a with defers := mark ++ a.defers } w4) := fun pd H4 w4 hpn hq hi4 hpall hk4 => by
      cases pd with
      | none => exact ⟨.normal,env,_,β3,rfl,hq,hi4,he4,hpall,hk4⟩
      | some x =>
        cases x with
        | normal => exact absurd rfl hpn
        | exit id => exact wpIn_exit ⟨.exit id,env,_,β3,rfl,hq,hi4,he4,hpall,hk4⟩
        | ret => exact wpIn_ret ⟨.ret,env,_,β3,rfl,hq,hi4,he4,hpall,hk4⟩
    have last := key r.pending _ _ hpn hq hi4 hpall hk4
    rw [← hrel.pending] at last
    exact ⟨c3.pending,_,run_endLoop hc3 (by rw [hrel.state]; exact hst),last⟩
end
end Go.Lq

namespace Go.Lq
open Go
inductive FnRen (s : Nat → Nat) (n : Nat) : Fn → Fn → Prop
  | func (f : FuncId) : FnRen s n (.func f) (.func f)
  | yield {l : Nat} (h : l < n) : FnRen s n (.yield l) (.yield (s l))
inductive Ren (s : Nat → Nat) (n : Nat) : Value → Value → Prop
  | junk (v : Value) : Ren s n (.chan none) v
  | bool (b : Bool) : Ren s n (.bool b) (.bool b)
  | int (k : IntKind) (m : Int) : Ren s n (.int k m) (.int k m)
  | string (x : ByteArray) : Ren s n (.string x) (.string x)
  | ptrNil : Ren s n (.pointer none) (.pointer none)
  | mapNil : Ren s n (.map none) (.map none)
  | ptr {id off : Nat} (h : id < n) : Ren s n (.pointer (some ⟨id,off,none⟩)) (.pointer (some ⟨s id,off,none⟩))
  | mapRef {id : Nat} (h : id < n) : Ren s n (.map (some id)) (.map (some (s id)))
  | sliceNil : Ren s n (.slice none 0 0) (.slice none 0 0)
  | slice {id off len c : Nat} (h : id < n) : Ren s n (.slice (some ⟨id,off,none⟩) len c) (.slice (some ⟨s id,off,none⟩) len c)
  | func {fn fn' : Fn} (hf : FnRen s n fn fn') {xs xs' ys ys' : Array Value} (hx : xs.size = xs'.size) (hy : ys.size = ys'.size)
      (h : ∀ (i : Nat) (v v' : Value),xs[i]? = some v → xs'[i]? = some v' → Ren s n v v')
      (h' : ∀ (i : Nat) (v v' : Value),ys[i]? = some v → ys'[i]? = some v' → Ren s n v v') : Ren s n (.func fn xs ys) (.func fn' xs' ys')
  | nilFunc : Ren s n .nilFunc .nilFunc
  | nilIface : Ren s n .nilIface .nilIface
  | iface (t : TypeId) {v v' : Value} (h : Ren s n v v') : Ren s n (.iface t v) (.iface t v')
  | agg {xs xs' : Array Value} (hx : xs.size = xs'.size) (h : ∀ (i : Nat) (v v' : Value),xs[i]? = some v → xs'[i]? = some v' → Ren s n v v') : Ren s n (.agg xs) (.agg xs')
  | tuple {xs xs' : Array Value} (hx : xs.size = xs'.size) (h : ∀ (i : Nat) (v v' : Value),xs[i]? = some v → xs'[i]? = some v' → Ren s n v v') : Ren s n (.tuple xs) (.tuple xs')
def Beta.ren (β : Beta) (s : Nat → Nat) (n : Nat) : Beta := fun i => if i < n then β (s i) else none
theorem Beta.ren_some {β : Beta} {s : Nat → Nat} {n i : Nat} (h : i < n) : β.ren s n i = β (s i) := by simp [Beta.ren,h]
theorem Beta.ren_inv {β : Beta} {s : Nat → Nat} {n i : Nat} {p : ALoc} (h : β.ren s n i = some p) : i < n ∧ β (s i) = some p := by
  unfold Beta.ren at h
  split at h
  · exact ⟨by assumption,h⟩
  · cases h
theorem FnRen.rel {β : Beta} {s : Nat → Nat} {n : Nat} {f f' g : Fn} (r : FnRen s n f f') (h : FnRel β f' g) : FnRel (β.ren s n) f g := by
  cases r with
  | func f => cases h; exact .func f
  | yield hl => cases h with | yield h1 h0 => exact .yield (by rw [Beta.ren_some hl]; exact h1) h0
theorem Ren.rel {β : Beta} {s : Nat → Nat} {n : Nat} {v v' : Value} (r : Ren s n v v') : ∀ {cv : Value},VR β v' cv → VR (β.ren s n) v cv := by
  induction r with
  | junk v => intro cv _; exact .junk cv
  | bool b => intro cv h; cases h; exact .bool b
  | int k m => intro cv h; cases h; exact .int k m
  | string x => intro cv h; cases h; exact .string x
  | ptrNil => intro cv h; cases h; exact .ptrNil
  | mapNil => intro cv h; cases h; exact .mapNil
  | ptr hi => intro cv h; cases h with | ptr hb => exact .ptr (by rw [Beta.ren_some hi]; exact hb)
  | mapRef hi => intro cv h; cases h with | mapRef hb h0 => exact .mapRef (by rw [Beta.ren_some hi]; exact hb) h0
  | sliceNil => intro cv h; cases h; exact .sliceNil
  | slice hi =>
    intro cv h
    cases h with
    | slice hc h0 ha => exact .slice hc h0 fun hh => by obtain ⟨p,hb,e⟩ := ha hh; exact ⟨p,by rw [Beta.ren_some hi]; exact hb,e⟩
  | func hf hx hy _ _ ih ih' =>
    intro cv h
    cases h with
    | func hf' hx' hy' h1 h2 =>
      refine .func (hf.rel hf') (hx.trans hx') (hy.trans hy') (fun i v v' a b => ?_) (fun i v v' a b => ?_)
      · obtain ⟨u,hu⟩ := arr_some hx a
        exact ih i v u a hu (h1 i u v' hu b)
      · obtain ⟨u,hu⟩ := arr_some hy a
        exact ih' i v u a hu (h2 i u v' hu b)
  | nilFunc => intro cv h; cases h; exact .nilFunc
  | nilIface => intro cv h; cases h; exact .nilIface
  | iface t _ ih => intro cv h; cases h with | iface _ h => exact .iface t (ih h)
  | agg hx _ ih =>
    intro cv h
    cases h with
    | agg hx' h1 =>
      refine .agg (hx.trans hx') fun i v v' a b => ?_
      obtain ⟨u,hu⟩ := arr_some hx a
      exact ih i v u a hu (h1 i u v' hu b)
  | tuple hx _ ih =>
    intro cv h
    cases h with
    | tuple hx' h1 =>
      refine .tuple (hx.trans hx') fun i v v' a b => ?_
      obtain ⟨u,hu⟩ := arr_some hx a
      exact ih i v u a hu (h1 i u v' hu b)
def ObjRen (s : Nat → Nat) (n : Nat) : Option AObj → Option AObj → Prop
  | some .dead,some _ => True
  | some (.row cs),some (.row cs') => cs = cs'
  | some (.cells o e vs),some (.cells o' e' vs') => o = o' ∧ e = e' ∧ vs.length = vs'.length ∧ ∀ (i : Nat) v v',vs[i]? = some v → vs'[i]? = some v' → Ren s n v v'
  | _,_ => False
structure Renames (H H' H2 : AHeap) (s : Nat → Nat) : Prop where
  len : H.length ≤ H2.length
  id : ∀ i,i < H.length → s i = i
  inj : ∀ i j,i < H2.length → j < H2.length → s i = s j → i = j
  obj : ∀ i,i < H2.length → (i < H.length ∧ H'[i]? = H[i]? ∧ H2[i]? = H[i]?) ∨ ObjRen s H2.length H2[i]? H'[s i]?
theorem back_rename {P : Program} {β β' : Beta} {H H' H2 : AHeap} {base : Nat} {w w' : World} {s : Nat → Nat} {v v2 cv : Value} (hi : Inj P β H base w) (hi' : Inj P β' H' base w')
    (hp : Post β H w β' H' w') (hv : VR β' v cv) (hr : Renames H H' H2 s) (hn : Ren s H2.length v2 v) :
    VR (β'.ren s H2.length) v2 cv ∧ Inj P (β'.ren s H2.length) H2 base w' ∧ Post β H w (β'.ren s H2.length) H2 w' := by
  have hle : β.le (β'.ren s H2.length) := fun i p hp' => by
    have h1 := hi.dom i p hp'
    rw [Beta.ren_some (by have := hr.len; omega),hr.id i h1,hp.old i h1]
    exact hp'
  have hkind : ∀ i,i < H2.length → liveAt H2 i = true → liveAt H' (s i) = true ∧ (mutAt H2 i = true → mutAt H' (s i) = true) := fun i hlt hl => by
    rcases hr.obj i hlt with ⟨h1,h2,h3⟩ | h
    · rw [hr.id i h1]
      unfold liveAt mutAt at *
      rw [h3] at hl ⊢
      rw [h2]
      exact ⟨hl,id⟩
    · unfold liveAt mutAt at *
      cases h2 : H2[i]? with
      | none => rw [h2] at hl; cases hl
      | some x =>
        cases h3 : H'[s i]? with
        | none => rw [h2,h3] at h; cases x <;> exact h.elim
        | some y =>
          rw [h2,h3] at h
          rw [h2] at hl
          cases x with
          | dead => cases hl
          | loop r => exact h.elim
          | map es => exact h.elim
          | row cs =>
            cases y with
            | row cs' => exact ⟨rfl,fun h => by cases h⟩
            | _ => exact h.elim
          | cells o e vs =>
            cases y with
            | dead => exact h.elim
            | loop r => exact h.elim
            | map es => exact h.elim
            | row cs => exact h.elim
            | cells o' e' vs' =>
              obtain ⟨rfl,_⟩ := h
              cases o with
              | true => exact ⟨rfl,fun _ => rfl⟩
              | false => exact ⟨rfl,fun h => by cases h⟩
  refine ⟨hn.rel hv,⟨hi'.base_le,Nat.le_trans hi.globs hr.len,fun g hg => ?_,fun i p h => (Beta.ren_inv h).1,fun i p h => hi'.lt _ _ (Beta.ren_inv h).2,fun i p h => ?_,fun i j p q h1 h2 hb hne hm hl => ?_⟩,
    ⟨hp.os,hp.tape,hp.output,hp.size,hr.len,fun i h => ?_,fun i h hm => ?_,fun i h hm => ?_,hp.frame,fun i p h1 h2 h3 => ?_⟩⟩
  · obtain ⟨r,h⟩ := hi.glob g hg
    exact ⟨r,hle _ _ h⟩
  · obtain ⟨hlt,h'⟩ := Beta.ren_inv h
    rcases hr.obj i hlt with ⟨h1,h2,h3⟩ | hobj
    · rw [hr.id i h1] at h'
      have ho := hi'.obj i p h'
      have hβ : β i = some p := (hp.old i h1).symm.trans h'
      have ho0 := hi.obj i p hβ
      rw [h2] at ho
      rw [h3]
      cases hx : H[i]? with
      | none => rw [hx] at ho0; exact ho0.elim
      | some x =>
        rw [hx] at ho ho0
        cases x with
        | dead => trivial
        | row cs => exact ho
        | cells o e vs =>
          obtain ⟨cs,t,fz,e1,e2,e3⟩ := ho
          obtain ⟨cs0,t0,fz0,_,e5,_⟩ := ho0
          refine ⟨cs,t,fz,e1,fun k u hu => ?_,e3⟩
          obtain ⟨cu,c1,c2⟩ := e2 k u hu
          obtain ⟨cu0,_,c4⟩ := e5 k u hu
          exact ⟨cu,c1,(c4.restrict (hp.le hi.dom) c2).mono hle⟩
        | loop r =>
          obtain ⟨e0,e1,c,e2,e3⟩ := ho
          obtain ⟨_,_,c0,_,e4⟩ := ho0
          refine ⟨e0,e1,c,e2,e3.state,e3.pending,?_,e3.params,e3.assign,e3.body⟩
          refine ⟨e3.env.1,fun k u cu h1 h2 => ?_⟩
          have hk : k < c0.tmps.toList.length := by rw [← e4.env.1]; exact (List.getElem?_eq_some_iff.1 h1).1
          exact ((e4.env.2 k u _ h1 (List.getElem?_eq_getElem hk)).restrict (hp.le hi.dom) (e3.env.2 k u cu h1 h2)).mono hle
        | map es =>
          obtain ⟨e0,e1,c,clk,e2,e3⟩ := ho
          obtain ⟨_,_,c0,clk0,_,e4⟩ := ho0
          refine ⟨e0,e1,c,clk,e2,e3.1,fun k u cu h1 h2 => ⟨(e3.2 k u cu h1 h2).1,?_⟩⟩
          have hk : k < c0.toList.length := by rw [← e4.1]; exact (List.getElem?_eq_some_iff.1 h1).1
          exact ((e4.2 k u _ h1 (List.getElem?_eq_getElem hk)).2.restrict (hp.le hi.dom) (e3.2 k u cu h1 h2).2).mono hle
    · have ho := hi'.obj _ p h'
      cases h2 : H2[i]? with
      | none => exact absurd h2 (by simp; exact hlt)
      | some x =>
        cases h3 : H'[s i]? with
        | none => rw [h3] at ho; exact ho.elim
        | some y =>
          rw [h2,h3] at hobj
          rw [h3] at ho
          cases x with
          | dead => trivial
          | loop r => exact hobj.elim
          | map es => exact hobj.elim
          | row cs =>
            cases y with
            | row cs' => obtain rfl := hobj; exact ho
            | _ => exact hobj.elim
          | cells o e vs =>
            cases y with
            | dead => exact hobj.elim
            | loop r => exact hobj.elim
            | map es => exact hobj.elim
            | row cs => exact hobj.elim
            | cells o' e' vs' =>
              obtain ⟨rfl,rfl,hlen,hren⟩ := hobj
              obtain ⟨cs,t,fz,e1,e2,e3⟩ := ho
              refine ⟨cs,t,fz,e1,fun k u hu => ?_,e3⟩
              have hk : k < vs'.length := by rw [← hlen]; exact (List.getElem?_eq_some_iff.1 hu).1
              obtain ⟨cu,c1,c2⟩ := e2 k vs'[k] (List.getElem?_eq_getElem hk)
              exact ⟨cu,c1,(hren k u _ hu (List.getElem?_eq_getElem hk)).rel c2⟩
  · obtain ⟨l1,h1'⟩ := Beta.ren_inv h1
    obtain ⟨l2,h2'⟩ := Beta.ren_inv h2
    exact hi'.own (s i) (s j) p q h1' h2' hb (fun e => hne (hr.inj i j l1 l2 e)) ((hkind i l1 (liveAt_of_mut hm)).2 hm) (hkind j l2 hl).1
  · rw [Beta.ren_some (Nat.lt_of_lt_of_le h hr.len),hr.id i h,hp.old i h]
  · have hlt := Nat.lt_of_lt_of_le h hr.len
    have := (hkind i hlt (liveAt_of_mut hm)).2 hm
    rw [hr.id i h] at this
    exact hp.dead i h this
  · have hlt := Nat.lt_of_lt_of_le h hr.len
    have := (hkind i hlt hm).1
    rw [hr.id i h] at this
    exact hp.live i h this
  · obtain ⟨hlt,h2'⟩ := Beta.ren_inv h2
    have hsi : H.length ≤ s i := by
      rcases Nat.lt_or_ge (s i) H.length with h | h
      · have e := hr.inj (s i) i (by have := hr.len; omega) hlt (hr.id _ h)
        omega
      · exact h
    obtain ⟨j,q,c1,c2,c3,c4⟩ := hp.fresh (s i) p hsi h2' h3
    refine ⟨j,q,c1,c2,c3,?_⟩
    have hj : j < H.length := hi.dom j q c1
    cases hl : liveAt H2 j with
    | false => rfl
    | true =>
      have := (hkind j (Nat.lt_of_lt_of_le hj hr.len) hl).1
      rw [hr.id j hj,c4] at this; cases this
theorem ACall.rename {P : Program} {f : FuncId} {args : List Value} {H : AHeap} {Q Q2 : Value → AHeap → Prop} (h : ACall P f args H Q)
    (hq : ∀ v H',Q v H' → ∃ v2 H2 s,Renames H H' H2 s ∧ Ren s H2.length v2 v ∧ Q2 v2 H2) : ACall P f args H Q2 :=
  ⟨h.1,fun base β w cargs hi hv => (h.2 base β w cargs hi hv).mono fun e w' hb => by
    obtain ⟨v,cv,β',H',rfl,hQ,hv',hi',hp⟩ := hb
    obtain ⟨v2,H2,s,hr,hn,hQ2⟩ := hq v H' hQ
    obtain ⟨h1,h2,h3⟩ := back_rename hi hi' hp hv' hr hn
    exact ⟨v2,cv,_,H2,rfl,hQ2,h1,h2,h3⟩⟩
theorem Closed.ren {v : Value} (h : Closed v) (s : Nat → Nat) (n : Nat) : Ren s n v v := by
  induction h with
  | bool b => exact .bool b
  | int k n => exact .int k n
  | string s => exact .string s
  | ptr => exact .ptrNil
  | mapNil => exact .mapNil
  | slice => exact .sliceNil
  | nilFunc => exact .nilFunc
  | nilIface => exact .nilIface
  | agg xs _ ih => exact .agg rfl fun i v v' a b => by rw [a] at b; cases b; exact ih i v a
  | tuple xs _ ih => exact .tuple rfl fun i v v' a b => by rw [a] at b; cases b; exact ih i v a
theorem ACall.forget {P : Program} {f : FuncId} {args : List Value} {H : AHeap} {v : Value} (hv : Closed v) (h : ACall P f args H fun v1 H1 => v1 = v ∧ ∃ N,H1 = H ++ N) :
    ACall P f args H fun v1 H1 => v1 = v ∧ H1 = H :=
  h.rename fun v1 H1 ⟨h1,N,h2⟩ => ⟨v1,H,id,⟨Nat.le_refl _,fun _ _ => rfl,fun _ _ _ _ e => e,fun i hlt => .inl ⟨hlt,by rw [h2,List.getElem?_append_left hlt],rfl⟩⟩,by rw [h1]; exact hv.ren _ _,h1,rfl⟩
end Go.Lq

namespace Go.Lq
open Go
def OwnHeap (H : AHeap) : Prop := ∀ (i : Nat) x,H[i]? = some x → match x with | .cells _ _ vs => ∀ v ∈ vs,Ren id H.length v v | .dead => True | .row _ => True | .loop _ => False | .map _ => False
theorem ren_id_le {β : Beta} {n : Nat} : (β.ren id n).le β := fun _ _ h => (Beta.ren_inv h).2
theorem Inj.first {P : Program} {β : Beta} {H M : AHeap} {base : Nat} {w : World} (hw : OwnHeap H) (hg : P.globals.size ≤ H.length) (hi : Inj P β (H ++ M) base w) : Inj P (β.ren id H.length) H base w :=
  ⟨hi.base_le,hg,fun g hgl => by
      obtain ⟨r,hr⟩ := hi.glob g hgl
      exact ⟨r,by rw [Beta.ren_some (by omega)]; exact hr⟩,fun i p h => (Beta.ren_inv h).1,fun i p h => hi.lt _ _ (Beta.ren_inv h).2,fun i p h => by
      obtain ⟨hlt,h'⟩ := Beta.ren_inv h
      have ho := hi.obj i p h'
      rw [List.getElem?_append_left hlt] at ho
      cases hx : H[i]? with
      | none => rw [hx] at ho; exact ho.elim
      | some x =>
        rw [hx] at ho
        have hwx := hw i x hx
        cases x with
        | dead => trivial
        | row cs => exact ho
        | loop r => exact hwx.elim
        | map r => exact hwx.elim
        | cells o e vs =>
          obtain ⟨cs,t,fz,e1,e2,e3⟩ := ho
          refine ⟨cs,t,fz,e1,fun k u hu => ?_,e3⟩
          obtain ⟨cu,c1,c2⟩ := e2 k u hu
          exact ⟨cu,c1,(hwx u (List.mem_of_getElem? hu)).rel c2⟩,fun i j p q h1 h2 hb hne hm hl => by
      obtain ⟨l1,h1'⟩ := Beta.ren_inv h1
      obtain ⟨l2,h2'⟩ := Beta.ren_inv h2
      exact hi.own i j p q h1' h2' hb hne (by rw [mutAt_append l1]; exact hm) (by rw [liveAt_append l2]; exact hl)⟩
theorem ACall.frame {P : Program} {f : FuncId} {args : List Value} {H : AHeap} {v : Value} (hg : P.globals.size ≤ H.length) (hw : OwnHeap H) (ha : ∀ x ∈ args,Closed x) (hv : Closed v)
    (h : ACall P f args H fun v1 H1 => v1 = v ∧ H1 = H) (M : AHeap) : ACall P f args (H ++ M) fun v1 H1 => v1 = v ∧ H1 = H ++ M :=
  ⟨h.1,fun base β w cargs hi hva => by
    have hi1 := hi.first hw hg
    have hva1 : VRs (β.ren id H.length) args cargs.toList := ⟨hva.1,fun i x cx h1 h2 => ((ha x (List.mem_of_getElem? h1)).ren id H.length).rel (hva.2 i x cx h1 h2)⟩
    refine (h.2 base _ w cargs hi1 hva1).mono fun e w' hb => ?_
    obtain ⟨v1,cv,β',H1,rfl,⟨rfl,rfl⟩,hv',hi',hp⟩ := hb
    have hvβ : VR β v1 cv := by
      generalize hcv : cv = c at *
      clear hcv
      have h0 : VR (fun _ => none) v1 v1 := hv.rel _
      exact (VR.restrict (β := β') (fun i p h => by cases h) h0 hv').mono (fun i p h => by cases h)
    refine ⟨v1,cv,β,H1 ++ M,rfl,⟨rfl,rfl⟩,hvβ,?_,?_⟩
    · refine ⟨hi'.base_le,hi.globs,hi.glob,hi.dom,fun i p h => Nat.lt_of_lt_of_le (hi.lt i p h) hp.size,fun i p h => ?_,hi.own⟩
      have hlt := hi.dom i p h
      by_cases hil : i < H1.length
      · rw [List.getElem?_append_left hil]
        have h1 : β.ren id H1.length i = some p := by rw [Beta.ren_some hil]; exact h
        have h2 : β' i = some p := (hp.old i hil).trans h1
        have ho := hi'.obj i p h2
        have ho0 := hi1.obj i p h1
        cases hx : H1[i]? with
        | none => rw [hx] at ho; exact ho.elim
        | some x =>
          rw [hx] at ho ho0
          have hwx := hw i x hx
          cases x with
          | dead => trivial
          | row cs => exact ho
          | loop r => exact hwx.elim
          | map r => exact hwx.elim
          | cells o e vs =>
            obtain ⟨cs,t,fz,e1,e2,e3⟩ := ho
            obtain ⟨cs0,t0,fz0,_,e5,_⟩ := ho0
            refine ⟨cs,t,fz,e1,fun k u hu => ?_,e3⟩
            obtain ⟨cu,c1,c2⟩ := e2 k u hu
            obtain ⟨cu0,_,c4⟩ := e5 k u hu
            exact ⟨cu,c1,(c4.restrict (hp.le hi1.dom) c2).mono ren_id_le⟩
      · cases hl : liveAt (H1 ++ M) i with
        | false => exact objRel_of_dead (by unfold liveAt at hl; exact hl) (hi.obj i p h)
        | true =>
          refine (hi.obj i p h).same (hp.frame p.b (hi.lt i p h) fun j q hj hb hm => ?_)
          obtain ⟨hjl,hj'⟩ := Beta.ren_inv hj
          exact hi.own j i q p hj' h hb (by intro e; subst e; exact hil hjl) (by rw [mutAt_append hjl]; exact hm) hl
    · refine ⟨hp.os,hp.tape,hp.output,hp.size,Nat.le_refl _,fun _ _ => rfl,fun _ _ h => h,fun _ _ h => h,fun b hb hn => hp.frame b hb fun j q hj hbb hm => ?_,fun i p h1 h2 _ => absurd (hi.dom i p h2) (by omega)⟩
      obtain ⟨hjl,hj'⟩ := Beta.ren_inv hj
      exact hn j q hj' hbb (by rw [mutAt_append hjl]; exact hm)⟩
end Go.Lq

namespace Go.Lq
open Go
inductive Task where
  | code (c : RCode) (ar : Option Nat) (env : Env)
  | call (fv : Value) (args : List Value)
abbrev Came := AExit × Env × AHeap × Nat
def noLo : Nat := 1000000000000
def dirt (r : ROp) (ρ : Operand → Value) : Nat :=
  match r with
  | .store _ a _ => match ρ a with | .pointer (some ⟨id,_,_⟩) => id | _ => 0
  | .append _ _ s _ => match ρ s with | .slice (some ⟨id,_,_⟩) _ _ => id | _ => noLo
  | .copy _ d _ => match ρ d with | .slice (some ⟨id,_,_⟩) _ _ => id | _ => noLo
  | .mapPut _ m _ _ => match ρ m with | .map (some id) => id | _ => 0
  | _ => noLo
/-! Terms evaluated before they are used: for the kernel's sake; each is what it stands for. -/
def normI {α : Type} (n : Int) (k : Int → α) : α := match n with | .ofNat m => force m fun m => k (.ofNat m) | .negSucc m => force m fun m => k (.negSucc m)
theorem normI_eq {α : Type} (n : Int) (k : Int → α) : normI n k = k n := by cases n <;> simp [normI,force_eq]
def normA {α : Type} (v : Value) (k : Value → α) : α :=
  match v with
  | .int t n => normI n fun n => k (.int t n)
  | .bool b => match b with | true => k (.bool true) | false => k (.bool false)
  | .pointer (some ⟨b,o,none⟩) => force b fun b => force o fun o => k (.pointer (some ⟨b,o,none⟩))
  | .slice (some ⟨b,o,none⟩) n c => force b fun b => force o fun o => force n fun n => force c fun c => k (.slice (some ⟨b,o,none⟩) n c)
  | v => k v
theorem normA_eq {α : Type} (v : Value) (k : Value → α) : normA v k = k v := by
  unfold normA
  split
  · rw [normI_eq]
  · rename_i b; cases b <;> rfl
  · simp only [force_eq]
  · simp only [force_eq]
  · rfl
noncomputable def normVs {α : Type} (l : List Value) : (List Value → α) → α :=
  List.rec (motive := fun _ => (List Value → α) → α) (fun k => k []) (fun v _ ih k => normA v fun v => ih fun vs => k (v :: vs)) l
theorem normVs_eq {α : Type} : ∀ (vs : List Value) (k : List Value → α),normVs vs k = k vs
  | [],k => rfl
  | v :: vs,k => by
    show normA v (fun v => normVs vs fun vs => k (v :: vs)) = _
    rw [normA_eq,normVs_eq vs]
noncomputable def normW {α : Type} (v : Value) (k : Value → α) : α := match v with | .agg ⟨cs⟩ => normVs cs fun cs => k (.agg ⟨cs⟩) | v => normA v k
theorem normW_eq {α : Type} (v : Value) (k : Value → α) : normW v k = k v := by unfold normW; split <;> simp only [normVs_eq,normA_eq]
noncomputable def normWs {α : Type} (l : List Value) : (List Value → α) → α :=
  List.rec (motive := fun _ => (List Value → α) → α) (fun k => k []) (fun v _ ih k => normW v fun v => ih fun vs => k (v :: vs)) l
theorem normWs_eq {α : Type} : ∀ (vs : List Value) (k : List Value → α),normWs vs k = k vs
  | [],k => rfl
  | v :: vs,k => by
    show normW v (fun v => normWs vs fun vs => k (v :: vs)) = _
    rw [normW_eq,normWs_eq vs]
noncomputable def normV {α : Type} (v : Value) (k : Value → α) : α :=
  match v with
  | .tuple ⟨cs⟩ => normWs cs fun cs => k (.tuple ⟨cs⟩)
  | .func f ⟨xs⟩ ⟨ys⟩ => normWs xs fun xs => normWs ys fun ys => k (.func f ⟨xs⟩ ⟨ys⟩)
  | v => normW v k
theorem normV_eq {α : Type} (v : Value) (k : Value → α) : normV v k = k v := by unfold normV; split <;> simp only [normWs_eq,normW_eq]
noncomputable def normEs {α : Type} (l : List Value) : (List Value → α) → α :=
  List.rec (motive := fun _ => (List Value → α) → α) (fun k => k []) (fun v _ ih k => normV v fun v => ih fun vs => k (v :: vs)) l
theorem normEs_eq {α : Type} : ∀ (vs : List Value) (k : List Value → α),normEs vs k = k vs
  | [],k => rfl
  | v :: vs,k => by
    show normV v (fun v => normEs vs fun vs => k (v :: vs)) = _
    rw [normV_eq,normEs_eq vs]
noncomputable def setF {α β : Type} (l : List α) : Nat → α → (List α → β) → β :=
  List.rec (motive := fun _ => Nat → α → (List α → β) → β) (fun _ _ k => k [])
    (fun y ys ih n x k => Nat.rec (motive := fun _ => β) (k (x :: ys)) (fun m _ => ih m x fun l => k (y :: l)) n) l
theorem setF_eq {α β : Type} : ∀ (l : List α) (n : Nat) (x : α) (k : List α → β),setF l n x k = k (l.set n x)
  | [],n,x,k => rfl
  | y :: ys,0,x,k => rfl
  | y :: ys,n + 1,x,k => by
    show setF ys n x (fun l => k (y :: l)) = _
    rw [setF_eq ys n x]; rfl
noncomputable def getK (l : List Value) : Nat → Value :=
  List.rec (motive := fun _ => Nat → Value) (fun _ => undef) (fun x _ ih n => Nat.rec (motive := fun _ => Value) x (fun m _ => ih m) n) l
theorem getK_eq : ∀ (l : List Value) (n : Nat),getK l n = l.getD n undef
  | [],n => by simp [getK]
  | y :: ys,0 => rfl
  | y :: ys,n + 1 => by
    show getK ys n = _
    rw [getK_eq ys n]; simp
noncomputable def optK (l : List Value) : Nat → Option Value :=
  List.rec (motive := fun _ => Nat → Option Value) (fun _ => none) (fun x _ ih n => Nat.rec (motive := fun _ => Option Value) (some x) (fun m _ => ih m) n) l
theorem optK_eq : ∀ (l : List Value) (n : Nat),optK l n = l[n]?
  | [],n => by simp [optK]
  | y :: ys,0 => rfl
  | y :: ys,n + 1 => by
    show optK ys n = _
    rw [optK_eq ys n]; simp
noncomputable def evalK (env : Env) : Operand → Value
  | .tmp t => getK env t
  | .const v => v
  | .global g => .pointer (some ⟨g,0,none⟩)
  | .func f => .func (.func f) #[] #[]
theorem evalK_eq (env : Env) : evalK env = evalA env := funext fun x => by cases x <;> simp only [evalK,evalA,getK_eq]
noncomputable def wantedK (g : Option (Nat × Bool)) (env : Env) : Option Bool :=
  match g with
  | none => some true
  | some (s,want) => match optK env s with | some (.bool b) => some (b == want) | some (.tuple _) => some false | _ => none
theorem wantedK_eq (g : Option (Nat × Bool)) (env : Env) : wantedK g env = wantedA g env := by
  unfold wantedK wantedA
  cases g with
  | none => rfl
  | some p => obtain ⟨s,want⟩ := p; simp only [optK_eq]; first | done | rfl
noncomputable def putF {β : Type} (env : Env) (dst : Option Nat) (v : Value) (k : Env → β) : β := match dst with | none => k env | some d => setF env d v k
theorem putF_eq {β : Type} (env : Env) (dst : Option Nat) (v : Value) (k : Env → β) : putF env dst v k = k (env.put dst v) := by cases dst <;> simp [putF,Env.put,setF_eq]
noncomputable def normM {α : Type} (l : List (Array Value × Value)) : (List (Array Value × Value) → α) → α :=
  List.rec (motive := fun _ => (List (Array Value × Value) → α) → α) (fun k => k []) (fun e _ ih k => match e with | (⟨cs⟩,v) => normVs cs fun cs => normV v fun v => ih fun es => k ((⟨cs⟩,v) :: es)) l
theorem normM_eq {α : Type} : ∀ (es : List (Array Value × Value)) (k : List (Array Value × Value) → α),normM es k = k es
  | [],k => rfl
  | (⟨cs⟩,v) :: es,k => by
    show normVs cs (fun cs => normV v fun v => normM es fun es => k ((⟨cs⟩,v) :: es)) = _
    rw [normVs_eq,normV_eq,normM_eq es]
noncomputable def normO {α : Type} (x : AObj) (k : AObj → α) : α :=
  match x with
  | .cells o e vs => normVs vs fun vs => k (.cells o e vs)
  | .loop ⟨st,pd,env,ps,as,bd⟩ => match pd with | none => k (.loop ⟨st,none,env,ps,as,bd⟩) | some y => k (.loop ⟨st,some y,env,ps,as,bd⟩)
  | .map es => normM es fun es => k (.map es)
  | .row cs => k (.row cs)
  | .dead => k .dead
theorem normO_eq {α : Type} (x : AObj) (k : AObj → α) : normO x k = k x := by
  unfold normO
  split
  · rw [normVs_eq]
  · split <;> rfl
  · rw [normM_eq]
  · rfl
  · rfl
noncomputable def lastF {α : Type} (H : List AObj) : (List AObj → α) → α :=
  List.rec (motive := fun _ => (List AObj → α) → α) (fun k => k [])
    (fun x xs ih k => List.rec (motive := fun _ => α) (normO x fun x => k [x]) (fun _ _ _ => ih fun l => k (x :: l)) xs) H
theorem lastF_eq {α : Type} : ∀ (H : List AObj) (k : List AObj → α),lastF H k = k H
  | [],k => rfl
  | [x],k => by
    show normO x (fun x => k [x]) = _
    rw [normO_eq]
  | x :: y :: H,k => by
    show lastF (y :: H) (fun l => k (x :: l)) = _
    rw [lastF_eq (y :: H)]
noncomputable def atF {α : Type} (H : List AObj) : Nat → (List AObj → α) → α :=
  List.rec (motive := fun _ => Nat → (List AObj → α) → α) (fun _ k => k [])
    (fun x xs ih n k => Nat.rec (motive := fun _ => α) (normO x fun x => k (x :: xs)) (fun m _ => ih m fun l => k (x :: l)) n) H
theorem atF_eq {α : Type} : ∀ (H : List AObj) (n : Nat) (k : List AObj → α),atF H n k = k H
  | [],n,k => rfl
  | x :: H,0,k => by
    show normO x (fun x => k (x :: H)) = _
    rw [normO_eq]
  | x :: H,n + 1,k => by
    show atF H n (fun l => k (x :: l)) = _
    rw [atF_eq H n]
noncomputable def opStep (rc : Task → AHeap → Option Came) (r : ROp) (env : Env) (H : AHeap) : Option (Value × AHeap × Nat) :=
  match r with
  | .call f args => match rc (.call (evalK env f) (args.map (evalK env))) H with | some (_,[v],H',lo) => some (v,H',lo) | _ => none
  | r => match ropRun r (evalK env) H with | some (v,H') => some (v,H',dirt r (evalK env)) | none => none
noncomputable def heapF {α : Type} (r : ROp) (i : Nat) (H : AHeap) (k : AHeap → α) : α :=
  match r with
  | .store _ _ _ | .copy _ _ _ => atF H i k
  | .append _ _ _ _ | .new _ | .box _ | .buildSlice _ _ _ _ | .mkSlice _ _ _ _ | .bytesS _ => lastF H k
  | _ => k H
theorem heapF_eq {α : Type} (r : ROp) (i : Nat) (H : AHeap) (k : AHeap → α) : heapF r i H k = k H := by
  unfold heapF
  split <;> first | rw [atF_eq] | rw [lastF_eq] | rfl
noncomputable def runOps (rc : Task → AHeap → Option Came) : List ROper → Env → AHeap → Nat → Option (Env × AHeap × Nat)
  | [],env,H,lo => some (env,H,lo)
  | o :: rest,env,H,lo =>
    match wantedK o.guard env with
    | some true => match opStep rc o.op env H with | some (v,H',lo') => normV v fun v => putF env o.dst v fun env => heapF o.op lo' H' fun H' => force (min lo lo') fun lo => runOps rc rest env H' lo | none => none
    | some false => putF env o.dst undef fun env => runOps rc rest env H lo
    | none => none
noncomputable def drawStep (rc : Task → AHeap → Option Came) (O : Value → List Value → AHeap → Option Value) (fr : Bool) (r : ROp) (B : AHeap) (env : Env) (H : AHeap) : Option (Value × AHeap × Nat) :=
  match r with
  | .call f args =>
    if fr then match O (evalK env f) (args.map (evalK env)) B with | some v => some (v,H,noLo) | none => none
    else match rc (.call (evalK env f) (args.map (evalK env))) H with | some (_,[v],H',lo) => if H.length ≤ lo then some (v,H',lo) else none | _ => none
  | r => match ropRun r (evalK env) H with | some (v,H') => some (v,H',dirt r (evalK env)) | none => none
noncomputable def runDraw (rc : Task → AHeap → Option Came) (O : Value → List Value → AHeap → Option Value) : List (ROper × Bool) → AHeap → Env → AHeap → Nat → Option (Env × AHeap × Nat)
  | [],_,env,H,lo => some (env,H,lo)
  | (o,fr) :: rest,B,env,H,lo =>
    match isVR o.op && fr with
    | true => runOps rc (o :: rest.map (·.1)) env H lo
    | false =>
    match wantedK o.guard env with
    | some true => match drawStep rc O fr o.op B env H with
      | some (v,H',lo') => normV v fun v => putF env o.dst v fun env => heapF o.op lo' H' fun H' => force (min lo lo') fun lo =>
        match ropWrites o.op with | true => runDraw rc O rest H' env H' lo | false => runDraw rc O rest B env H' lo
      | none => none
    | some false => putF env o.dst undef fun env => runDraw rc O rest B env H lo
    | none => none
def isLoop : Option AObj → Bool | some (.loop _) => true | _ => false
def closedB : Value → Bool
  | .tuple ⟨vs⟩ => vs.all constOk
  | v => constOk v
theorem closedB_closed {v : Value} (h : closedB v = true) : Closed v := by
  unfold closedB at h
  split at h
  · rename_i vs
    refine .tuple _ fun i v hv => constOk_closed (List.all_eq_true.1 h v ?_)
    have : vs[i]? = some v := by simpa using hv
    exact List.mem_of_getElem? this
  · exact constOk_closed h
def gc (n : Nat) (H' : AHeap) (v : Value) : Option (Value × AHeap) :=
  match closedB v with
  | true => some (v,[])
  | false =>
    match v with
    | .slice (some ⟨id,off,none⟩) len c =>
      match Nat.ble n id,H'[id]? with
      | true,some (.cells o e vs) => if vs.all constOk then some (.slice (some ⟨n,off,none⟩) len c,[.cells o e vs]) else none
      | _,_ => none
    | .tuple ⟨.slice (some ⟨id,off,none⟩) len c :: rest⟩ =>
      match Nat.ble n id,H'[id]? with
      | true,some (.cells o e vs) => if vs.all constOk && rest.all constOk then some (.tuple ⟨.slice (some ⟨n,off,none⟩) len c :: rest⟩,[.cells o e vs]) else none
      | _,_ => none
    | _ => none
theorem gc_sound {P : Program} {f : FuncId} {args : List Value} {H H' : AHeap} {v v2 : Value} {N : AHeap} (hq : ∃ M,H' = H ++ M) (hg : gc H.length H' v = some (v2,N))
    (h : ACall P f args H fun v1 H1 => v1 = v ∧ H1 = H') : ACall P f args H fun v1 H1 => v1 = v2 ∧ H1 = H ++ N := by
  obtain ⟨M,rfl⟩ := hq
  have one : ∀ (id : Nat) (o : Bool) (e : Nat) (vs : List Value),H.length ≤ id → (H ++ M)[id]? = some (.cells o e vs) → vs.all constOk = true →
      Renames H (H ++ M) (H ++ [.cells o e vs]) (fun i => if i < H.length then i else id) := fun id o e vs hid hx hc => by
    refine ⟨by simp,fun i hi => by simp [hi],fun i j hi hj hs => ?_,fun i hi => ?_⟩
    · simp only [List.length_append,List.length_cons,List.length_nil] at hi hj
      have hs' : (if i < H.length then i else id) = if j < H.length then j else id := hs
      split at hs' <;> split at hs' <;> omega
    · by_cases hlt : i < H.length
      · exact .inl ⟨hlt,List.getElem?_append_left hlt,List.getElem?_append_left hlt⟩
      · have : i = H.length := by simp at hi; omega
        subst this
        refine .inr ?_
        simp only [Nat.lt_irrefl,if_false,hx]
        rw [List.getElem?_append_right (Nat.le_refl _),Nat.sub_self]
        exact ⟨rfl,rfl,rfl,fun k u u' h1 h2 => by rw [h1] at h2; cases h2; exact (constOk_closed (List.all_eq_true.1 hc u (List.mem_of_getElem? h1))).ren _ _⟩
  have sl : ∀ (id off len c : Nat) (K : AHeap),H.length ≤ id → Ren (fun i => if i < H.length then i else id) (H.length + 1) (.slice (some ⟨H.length,off,none⟩) len c) (.slice (some ⟨id,off,none⟩) len c) := fun id off len c _ hid => by
    have := Ren.slice (s := fun i => if i < H.length then i else id) (n := H.length + 1) (id := H.length) (off := off) (len := len) (c := c) (by omega)
    simpa using this
  unfold gc at hg
  split at hg
  · rename_i hc
    cases hg
    simp only [List.append_nil]
    exact ACall.forget (closedB_closed hc) (h.mono fun v1 H1 ⟨e1,e2⟩ => ⟨e1,M,e2⟩)
  · split at hg
    · rename_i id off len c _
      split at hg
      · rename_i o e vs hid hx
        have hid := Nat.le_of_ble_eq_true hid
        split at hg
        · rename_i hc
          cases hg
          refine h.rename fun v1 H1 hh => ?_
          obtain ⟨e1,e2⟩ := hh
          subst e1; subst e2
          refine ⟨_,_,_,one id o e vs hid hx hc,?_,rfl,rfl⟩
          simpa using sl id off len c H hid
        · cases hg
      · cases hg
    · rename_i id off len c rest _
      split at hg
      · rename_i o e vs hid hx
        have hid := Nat.le_of_ble_eq_true hid
        split at hg
        · rename_i hc
          simp only [Bool.and_eq_true] at hc
          cases hg
          refine h.rename fun v1 H1 hh => ?_
          obtain ⟨e1,e2⟩ := hh
          subst e1; subst e2
          refine ⟨_,_,_,one id o e vs hid hx hc.1,?_,rfl,rfl⟩
          refine .tuple (by simp) fun i u u' h1 h2 => ?_
          cases i with
          | zero => simp at h1 h2; subst h1; subst h2; simpa using sl id off len c H hid
          | succ i =>
            simp at h1 h2
            rw [h1] at h2; cases h2
            exact (constOk_closed (List.all_eq_true.1 hc.2 u (List.mem_of_getElem? h1))).ren _ _
        · cases hg
      · cases hg
    · cases hg
def arOk (ar : Option Nat) (H : AHeap) : Bool := match ar with | none => true | some l => isLoop H[l]?
noncomputable def step (T : Nat → Option RFunc) (O : Value → List Value → AHeap → Option Value) (rc : Task → AHeap → Option Came) (t : Task) (H : AHeap) : Option Came :=
  match t with
  | .code c ar env =>
    match c with
    | .skip => some (.normal,env,H,noLo)
    | .exit id => some (.exit id,env,H,noLo)
    | .label _ => some (.normal,env,H,noLo)
    | .scope a => rc (.code a ar env) H
    | .ret => some (.ret,env,H,noLo)
    | .ops l => match runOps rc l env H noLo with | some (env',H',lo) => some (.normal,env',H',lo) | none => none
    | .draw l => match runDraw rc O l H env H noLo with | some (env',H',lo) => some (.normal,env',H',lo) | none => none
    | .drawF _ _ => none
    | .anyO _ => none
    | .drawS d n x l =>
      match evalK env (.tmp d) with
      | .pointer (some ⟨id,off,none⟩) =>
        match H[id]? with
        | some (.cells true esz vs) =>
          match Nat.ble (off + n) vs.length,runDraw rc O l (H.set id .dead) env (H.set id .dead) noLo with
          | true,some (env',H',lo) =>
            match (evalA env' (.tmp x)).cells.toList.length == n && (evalA env' (.tmp x)).cells.toList.all isAtom with
            | true => setF H' id (.cells true esz (setCells vs off (evalA env' (.tmp x)).cells.toList)) fun H2 => some (.normal,env',H2,min id lo)
            | false => none
          | _,_ => none
        | _ => none
      | _ => none
    | .seq a b =>
      match rc (.code a ar env) H with
      | some (.normal,env',H',lo) => match rc (.code b ar env') H' with | some (x,env2,H2,lo2) => force (min lo lo2) fun lo => some (x,env2,H2,lo) | none => none
      | r => r
    | .cond o a b => match evalK env o with | .bool true => rc (.code a ar env) H | .bool false => rc (.code b ar env) H | _ => none
    | .block id a =>
      match rc (.code a ar env) H with
      | some (.exit id',env',H',lo) => if id' = id then some (.normal,env',H',lo) else some (.exit id',env',H',lo)
      | r => r
    | .loop a =>
      match rc (.code a ar env) H with
      | some (.normal,env',H',lo) => match rc (.code (.loop a) ar env') H' with | some (x,env2,H2,lo2) => force (min lo lo2) fun lo => some (x,env2,H2,lo) | none => none
      | r => r
    | .rangeFunc g ps as bd =>
      match evalK env g with
      | .func (.func f) xs ys =>
        if arOk ar H = true then
          match lastF (H ++ [.loop { state := .ready,pending := none,env := env,params := ps,assign := as,body := bd }]) (fun H1 => rc (.call (.func (.func f) xs ys) [.func (.yield H.length) #[] #[]]) H1) with
          | some (_,_,H',lo) =>
            match H'[H.length]? with
            | some (.loop r) =>
              match r.state with
              | .busy => none
              | _ => match r.pending with
                | some .normal => none
                | some x => setF H' H.length (.loop { r with state := .exhausted }) fun H' => some (x,env,H',lo)
                | none => setF H' H.length (.loop { r with state := .exhausted }) fun H' => some (.normal,env,H',lo)
            | _ => none
          | none => none
        else none
      | _ => none
  | .call fv args =>
    match fv with
    | .func (.func f) xs ys =>
      match T f with
      | some rf =>
        match normEs (xs.toList ++ args ++ ys.toList ++ List.replicate (rf.ntmps - (xs.toList ++ args ++ ys.toList).length) undef) (fun env => rc (.code rf.code none env) H) with
        | some (.exit _,_,_,_) => none
        | some (_,env',H',lo) => match resultA env' H' rf.res with
          | some v => normV v fun v =>
            match Nat.ble H.length lo with
            | true => match gc H.length H' v with | some (v2,N) => lastF (H ++ N) fun H2 => some (.normal,[v2],H2,noLo) | none => some (.normal,[v],H',lo)
            | false => some (.normal,[v],H',lo)
          | none => none
        | none => none
      | none => none
    | .func (.yield l) xs _ =>
      match H[l]? with
      | some (.loop r) =>
        if (xs.toList ++ args).length = r.params.length then
          match normEs (assignParams r.env r.params (xs.toList ++ args)) (fun env => rc (.code r.assign (some l) env) H) with
          | some (.normal,env1,H1,lo1) =>
            match H1[l]? with
            | some (.loop r1) =>
              match r1.state with
              | .ready =>
                match (fun H1 => atF H1 l) (H1.set l (.loop { r1 with state := .busy })) (fun H2 => rc (.code r.body (some l) env1) H2) with
                | some (x,_,H2,lo2) =>
                  match H2[l]? with
                  | some (.loop r2) => (fun H1 => atF H1 l) (H2.set l (.loop { r2 with state := if x == .normal then .ready else .done,pending := if x == .normal then none else some x })) fun H3 => some (.normal,[.bool (x == .normal)],H3,min l (min lo1 lo2))
                  | _ => none
                | none => none
              | _ => none
            | _ => none
          | _ => none
        else none
      | _ => none
    | _ => none
noncomputable def run (T : Nat → Option RFunc) (O : Value → List Value → AHeap → Option Value) (n : Nat) : Task → AHeap → Option Came :=
  Nat.rec (fun _ _ => none) (fun _ rc t H => step T O rc t H) n
def Keep (H H' : AHeap) (lo : Nat) : Prop := H.length ≤ H'.length ∧ ∀ i,i < H.length → i < lo → H'[i]? = H[i]?
theorem Keep.refl (H : AHeap) (lo : Nat) : Keep H H lo := ⟨Nat.le_refl _,fun _ _ _ => rfl⟩
theorem Keep.trans {H H1 H2 : AHeap} {lo lo2 : Nat} (h : Keep H H1 lo) (k : Keep H1 H2 lo2) : Keep H H2 (min lo lo2) :=
  ⟨Nat.le_trans h.1 k.1,fun i hi hl => (k.2 i (Nat.lt_of_lt_of_le hi h.1) (by omega)).trans (h.2 i hi (by omega))⟩
theorem Keep.quiet {H H1 : AHeap} {lo : Nat} (h : Keep H H1 lo) (hl : H.length ≤ lo) : ∃ N,H1 = H ++ N :=
  ⟨H1.drop H.length,by
    refine List.ext_getElem? fun i => ?_
    by_cases hi : i < H.length
    · rw [List.getElem?_append_left hi]; exact h.2 i hi (by omega)
    · rw [List.getElem?_append_right (by omega),List.getElem?_drop]
      congr 1; omega⟩
theorem dirt_keep {r : ROp} {ρ : Operand → Value} {H H' : AHeap} {v : Value} (h : ropRun r ρ H = some (v,H')) : Keep H H' (dirt r ρ) := by
  cases hw : ropWrites r with
  | false =>
    obtain ⟨N,rfl⟩ := ropRun_grow hw h
    exact ⟨by simp,fun i hi _ => List.getElem?_append_left hi⟩
  | true =>
    have hst : ∀ {id k : Nat} {vs : List Value} {H' : AHeap},storeAt H id k vs = some H' → Keep H H' id := fun {id k vs H'} hs => by
      unfold storeAt at hs
      split at hs
      · split at hs
        · cases hs; exact ⟨by simp,fun i _ hl => List.getElem?_set_ne (by omega)⟩
        · cases hs
      · cases hs
    cases r with
    | store n a x =>
      simp only [ropRun] at h
      split at h
      · rename_i id off e
        split at h
        · simp only [Option.map_eq_some_iff,Prod.mk.injEq] at h
          obtain ⟨H1,h1,_,rfl⟩ := h
          simp only [dirt,e]
          exact hst h1
        · cases h
      · cases h
    | append size bytes s x =>
      simp only [ropRun,appendA] at h
      simp only [dirt]
      split at h
      · cases h; exact .refl _ _
      · cases h; exact .refl _ _
      · cases h; exact .refl _ _
      · cases h; exact .refl _ _
      · split at h
        · split at h
          · cases h; exact ⟨by simp,fun i hi _ => List.getElem?_append_left hi⟩
          · cases h
        · cases h
      · rename_i id off len c jd joff n c' e1 e2
        rw [e1]
        split at h
        · split at h
          · split at h
            · cases h; exact ⟨by simp,fun i hi _ => List.getElem?_append_left hi⟩
            · split at h
              · split at h
                · cases h
                  refine ⟨by simp,fun i hi hl => ?_⟩
                  rw [List.getElem?_append_left (by simpa using hi),List.getElem?_set_ne (by simp at hl; omega)]
                · cases h
              · cases h
          · cases h
        · cases h
      · cases h
    | copy size d s =>
      simp only [ropRun,copyA] at h
      simp only [dirt]
      split at h
      · rename_i id off m c jd joff n c' e1 e2
        rw [e1]
        split at h
        · simp only [Option.map_eq_some_iff,Prod.mk.injEq] at h
          obtain ⟨H1,h1,_,rfl⟩ := h
          exact hst h1
        · cases h
      all_goals first | (cases h; exact .refl _ _) | cases h
    | mapPut ls m k x =>
      simp only [ropRun] at h
      split at h
      · rename_i id cs e1 e2
        split at h
        · split at h
          · simp only [Option.map_eq_some_iff,Prod.mk.injEq] at h
            obtain ⟨es',h1,_,rfl⟩ := h
            simp only [dirt,e1]
            exact ⟨by simp,fun i _ hl => List.getElem?_set_ne (by omega)⟩
          · cases h
        · cases h
      · cases h
    | _ => cases hw
end Go.Lq
