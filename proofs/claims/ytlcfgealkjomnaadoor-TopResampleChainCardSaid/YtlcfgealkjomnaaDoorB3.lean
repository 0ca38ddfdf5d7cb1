/- Towards TopResampleChain of seat YtlcfgealkjomnaaDoor: it returns true for every input. Made out of the proof's own texts, merged. -/
import Derived.Test.YtlcfgealkjomnaaDoorB2
set_option linter.unusedSimpArgs false
set_option linter.unnecessarySimpa false
set_option linter.unusedVariables false
namespace Go.Lq
open Go

structure Held (ops : Array Oper) (i j d x : Nat) : Prop where
  are : ∃ (o : Oper) (t : TypeId) (y : Oper), ops[i]? = some o ∧ o.op = .alloc t ∧ o.dst = some d ∧ o.guard = none ∧ ops[j]? = some y ∧ y.op = .store t (.tmp d) (.tmp x) ∧ y.dst = none ∧ y.guard = none ∧
    (∃ e ∈ y.after, e.on = i ∧ Region.binds .any e = true) ∧ ∀ (m : Nat) (z : Oper), ops[m]? = some z → z.dst = some x → ∃ e ∈ y.after, e.on = m ∧ Region.binds .any e = true
  looks : ∀ (k : Nat) (z : Oper), ops[k]? = some z → d ∈ z.looksAt ops → k = j
  lt : i < j
  wd : ∀ (m : Nat) (z : Oper), ops[m]? = some z → z.dst = some d → m = i
  ne : x ≠ d

section
variable {P : Program} {ops : Array Oper}
theorem writesT_spec {t : Nat} {p : Nat → Bool} (h : writesT ops t p = true) {m : Nat} {z : Oper} (hz : ops[m]? = some z) (hd : z.dst = some t) : p m = true := by
  have hm := (Array.getElem?_eq_some_iff.1 hz).1
  have := List.all_eq_true.1 h m (List.mem_range.2 hm)
  rw [hz] at this
  simpa [hd] using this
theorem any_edge {es : Array Edge} {m : Nat} (h : (es.toList.any fun e => e.on == m && Region.binds .any e) = true) : ∃ e ∈ es, e.on = m ∧ Region.binds .any e = true := by
  obtain ⟨e, he, h2⟩ := List.any_eq_true.1 h
  simp only [Bool.and_eq_true, beq_iff_eq] at h2
  exact ⟨e, by simpa using he, h2.1, h2.2⟩
theorem heldAt_spec {i : Nat} {h : Nat × Nat × Nat × Nat} (hh : heldAt ops i = some h) : h.1 = i ∧ Held ops h.1 h.2.1 h.2.2.1 h.2.2.2 := by
  unfold heldAt at hh
  split at hh
  · rename_i o ho
    split at hh
    · rename_i t d h1 h2 h3
      split at hh
      · rename_i j hj
        split at hh
        · rename_i y hy
          split at hh
          · rename_i t' d' x g1 g2 g3
            split at hh
            · rename_i hc
              simp only [Bool.and_eq_true, decide_eq_true_eq, bne_iff_ne, ne_eq] at hc
              obtain ⟨⟨⟨⟨⟨⟨c1, c2⟩, c3⟩, c4⟩, c5⟩, c6⟩, c7⟩ := hc
              subst c1; subst c2
              simp only [Option.some.injEq] at hh
              subst hh
              refine ⟨rfl, ⟨o, t', y, ho, h1, h2, h3, hy, g1, g2, g3, any_edge c5, fun m z hz hd => any_edge (writesT_spec c7 hz hd)⟩, fun k z hz hl => ?_, c4, fun m z hz hd => by simpa using writesT_spec c6 hz hd, c3⟩
              have hk := (Array.getElem?_eq_some_iff.1 hz).1
              have hkj : k ∈ [j] := by
                rw [← hj, List.mem_filter]
                refine ⟨List.mem_range.2 hk, ?_⟩
                rw [hz]
                simpa using hl
              simpa using hkj
            · cases hh
          · cases hh
        · cases hh
      · cases hh
    · cases hh
  · cases hh
theorem mem_holds {h : Nat × Nat × Nat × Nat} (hh : h ∈ holds ops) : heldAt ops h.1 = some h ∧ Held ops h.1 h.2.1 h.2.2.1 h.2.2.2 := by
  obtain ⟨i, _, hi⟩ := List.mem_filterMap.1 hh
  obtain ⟨e, h2⟩ := heldAt_spec hi
  exact ⟨by rw [e]; exact hi, h2⟩
theorem holds_eq1 {h h' : Nat × Nat × Nat × Nat} (hh : h ∈ holds ops) (hh' : h' ∈ holds ops) (e : h.1 = h'.1) : h = h' := by
  have h1 := (mem_holds hh).1
  rw [e, (mem_holds hh').1] at h1
  exact (Option.some.inj h1).symm
theorem holds_eqd {h h' : Nat × Nat × Nat × Nat} (hh : h ∈ holds ops) (hh' : h' ∈ holds ops) (e : h.2.2.1 = h'.2.2.1) : h = h' := by
  obtain ⟨o, t, y, h1, _, h3, _⟩ := (mem_holds hh).2.are
  exact holds_eq1 hh hh' ((mem_holds hh').2.wd _ _ h1 (by rw [h3, e]))
theorem holds_eqj {h h' : Nat × Nat × Nat × Nat} (hh : h ∈ holds ops) (hh' : h' ∈ holds ops) (e : h.2.1 = h'.2.1) : h = h' := by
  obtain ⟨o, t, y, _, _, _, _, h5, h6, _⟩ := (mem_holds hh).2.are
  obtain ⟨o', t', y', _, _, _, _, k5, k6, _⟩ := (mem_holds hh').2.are
  rw [e, k5] at h5
  cases h5
  rw [k6] at h6
  simp only [Op.store.injEq, Operand.tmp.injEq] at h6
  exact holds_eqd hh hh' h6.2.1.symm
theorem holds_ij {h h' : Nat × Nat × Nat × Nat} (hh : h ∈ holds ops) (hh' : h' ∈ holds ops) (e : h.1 = h'.2.1) : False := by
  obtain ⟨o, t, y, h1, h2, _⟩ := (mem_holds hh).2.are
  obtain ⟨o', t', y', _, _, _, _, k5, k6, _⟩ := (mem_holds hh').2.are
  rw [e, k5] at h1
  cases h1
  rw [k6] at h2
  cases h2
theorem holds_xd {h h' : Nat × Nat × Nat × Nat} (hh : h ∈ holds ops) (hh' : h' ∈ holds ops) : h'.2.2.2 ≠ h.2.2.1 := fun e => by
  obtain ⟨o', t', y', _, _, _, _, k5, k6, _⟩ := (mem_holds hh').2.are
  have hl : h.2.2.1 ∈ y'.looksAt ops := by
    refine List.mem_append_left _ (List.mem_filterMap.2 ⟨.tmp h'.2.2.2, ?_, by simp [e]⟩)
    rw [k6]; simp [Op.operands]
  have := (mem_holds hh).2.looks _ _ k5 hl
  have e2 := holds_eqj hh' hh this
  subst e2
  exact (mem_holds hh).2.ne e
theorem holds_pw : (holds ops).Pairwise fun h h' => h.1 ≠ h'.1 := by
  refine List.Pairwise.filterMap _ (R := fun a b => a ≠ b) (fun a a' hne b hb b' hb' => ?_) List.nodup_range
  rw [(heldAt_spec hb).1, (heldAt_spec hb').1]
  exact hne

theorem isHeld_spec {k : Nat} (h : isHeld (holds ops) k = true) : ∃ h ∈ holds ops, h.1 = k ∨ h.2.1 = k := by
  obtain ⟨x, hx, h2⟩ := List.any_eq_true.1 h
  exact ⟨x, hx, by simpa using h2⟩
theorem isHeld_of {h : Nat × Nat × Nat × Nat} (hh : h ∈ holds ops) : isHeld (holds ops) h.1 = true ∧ isHeld (holds ops) h.2.1 = true :=
  ⟨List.any_eq_true.2 ⟨h, hh, by simp⟩, List.any_eq_true.2 ⟨h, hh, by simp⟩⟩

theorem hide_size : (hideOps ops).size = ops.size := by simp [hideOps]
theorem hide_get (k : Nat) : (hideOps ops)[k]? = (ops[k]?).map fun o => if isHeld (holds ops) k then { o with dst := none, op := .move (.const (.bool false)) } else o := by
  simp [hideOps]
theorem hide_of {k : Nat} {o : Oper} (h : ops[k]? = some o) : ∃ o', (hideOps ops)[k]? = some o' ∧ o'.after = o.after ∧ o'.guard = o.guard ∧ (isHeld (holds ops) k = false → o' = o) ∧ (isHeld (holds ops) k = true → o'.dst = none ∧ o'.op = .move (.const (.bool false))) := by
  rw [hide_get, h]
  refine ⟨_, rfl, ?_⟩
  cases isHeld (holds ops) k <;> simp
theorem hide_back {k : Nat} {o' : Oper} (h : (hideOps ops)[k]? = some o') : ∃ o, ops[k]? = some o ∧ o'.after = o.after ∧ o'.guard = o.guard ∧ (isHeld (holds ops) k = false → o' = o) ∧ (∀ d, o'.dst = some d → o.dst = some d ∧ isHeld (holds ops) k = false) := by
  rw [hide_get] at h
  obtain ⟨o, ho, rfl⟩ := Option.map_eq_some_iff.1 h
  refine ⟨o, ho, ?_⟩
  cases isHeld (holds ops) k <;> simp
theorem compile_unhide {o : Oper} {r : ROper} (h : compileOper P (hideOps ops) o = some r) : compileOper P ops o = some r := by
  unfold compileOper at h ⊢
  split at h
  · exact h
  · rename_i g w hg
    simp only [Option.map_eq_some_iff] at h ⊢
    obtain ⟨s, hs, rfl⟩ := h
    refine ⟨s, ?_, rfl⟩
    obtain ⟨z, hz, hd⟩ := Option.bind_eq_some_iff.1 hs
    obtain ⟨z0, h0, _, _, _, h4⟩ := hide_back hz
    rw [h0]
    exact (h4 s hd).1
end

structure HeldSt (ops : Array Oper) (P : Program) (u : Nat → Value) (m0 : Nat) (β : Beta) (listed : Array Bool) (tmps : Array Value) (w : World) : Prop where
  box : ∀ h ∈ holds ops, listed.getD h.1 false = true → ∃ b, tmps[h.2.2.1]? = some (.pointer (some ⟨b, 0, none⟩)) ∧ m0 ≤ b ∧ b < w.heap.size ∧ (∀ id p, β id = some p → p.b ≠ b) ∧
    ∃ cs t n, w.heap[b]? = some (.cells cs t (0, 0)) ∧ holdSize P ops h = some (h.2.2.1, n, .tmp h.2.2.2) ∧ cs.size = n ∧ (listed.getD h.2.1 false = true → VRs β (u h.2.2.2).cells.toList cs.toList)
  apart : ∀ h ∈ holds ops, ∀ h' ∈ holds ops, h.1 ≠ h'.1 → listed.getD h.1 false = true → listed.getD h'.1 false = true → ∀ b, tmps[h.2.2.1]? = some (.pointer (some ⟨b, 0, none⟩)) → tmps[h'.2.2.1]? ≠ some (.pointer (some ⟨b, 0, none⟩))

theorem put_get_ne {a : Act} {dst : Option Tmp} {v : Value} {d : Nat} (h : ∀ c, dst = some c → c ≠ d) : (a.put dst v).tmps[d]? = a.tmps[d]? := by
  cases dst with
  | none => rfl
  | some c =>
    simp only [Act.put]
    rw [Array.getElem?_setIfInBounds_ne (h c rfl)]
theorem put_get_eq {a : Act} {d : Nat} {v : Value} (h : d < a.tmps.size) : (a.put (some d) v).tmps[d]? = some v := by
  simp only [Act.put]
  rw [Array.getElem?_setIfInBounds_self_of_lt h]

theorem HeldSt.step {ops : Array Oper} {P : Program} {u : Nat → Value} {m0 : Nat} {β β' : Beta} {listed : Array Bool} {a : Act} {w w' : World} {H H' : AHeap} {i : Nat} {o : Oper} {cv : Value}
    (h : HeldSt ops P u m0 β listed a.tmps w) (hdom : ∀ id p, β id = some p → id < H.length) (hp : Post β H w β' H' w') (ho : ops[i]? = some o) (hn : isHeld (holds ops) i = false) :
    HeldSt ops P u m0 β' (listed.setIfInBounds i true) (a.put o.dst cv).tmps w' := by
  have hd : ∀ x ∈ holds ops, ∀ c, o.dst = some c → c ≠ x.2.2.1 := fun x hx c hc e => by
    have := (mem_holds hx).2.wd _ _ ho (by rw [hc, e])
    rw [this, (isHeld_of hx).1] at hn; cases hn
  have hl : ∀ x ∈ holds ops, (listed.setIfInBounds i true).getD x.1 false = listed.getD x.1 false ∧ (listed.setIfInBounds i true).getD x.2.1 false = listed.getD x.2.1 false := fun x hx =>
    ⟨getD_set_ne false (fun e => by rw [e, (isHeld_of hx).1] at hn; cases hn), getD_set_ne false (fun e => by rw [e, (isHeld_of hx).2] at hn; cases hn)⟩
  refine ⟨fun x hx hlx => ?_, fun x hx x' hx' hne h1 h2 b => ?_⟩
  · rw [(hl x hx).1] at hlx
    obtain ⟨b, e1, e2, e3, e4, cs, t, n, e5, e6, e7, e8⟩ := h.box x hx hlx
    refine ⟨b, by rw [put_get_ne (hd x hx)]; exact e1, e2, Nat.lt_of_lt_of_le e3 hp.size, fun id p hid hb => ?_, cs, t, n, ?_, e6, e7, fun hj => ?_⟩
    · by_cases hlt : id < H.length
      · exact e4 id p ((hp.old id hlt).symm.trans hid) hb
      · obtain ⟨j, q, hj, hq, _⟩ := hp.fresh id p (by omega) hid (by omega)
        exact e4 j q hj (by omega)
    · rw [hp.frame b e3 fun id p hid hb _ => e4 id p hid hb]; exact e5
    · rw [(hl x hx).2] at hj
      exact (e8 hj).mono (hp.le hdom)
  · rw [(hl x hx).1] at h1
    rw [(hl x' hx').1] at h2
    rw [put_get_ne (hd x hx), put_get_ne (hd x' hx')]
    exact h.apart x hx x' hx' hne h1 h2 b
end Go.Lq

namespace Go.Lq
open Go
section
variable {P : Program} {ops : Array Oper} {rs : List ROper} {Q : AExit → Env → AHeap → Prop} {E : Nat → Env} {G B : Nat → AHeap} {V : Nat → Value} {K : Env → AHeap → Prop}

theorem alloc_run {o : Oper} {t : TypeId} {ρ : Operand → Value} {w : World} (ho : o.op = .alloc t) {z : List Value} (hz : zeroAt P t = some z) :
    ∃ zc : Array Value, zc.toList = z ∧ (execOp ρ o).run P w = .ok (.value (.pointer (some ⟨w.heap.size, 0, none⟩))) { w with heap := w.heap.push (.cells zc t) } := by
  simp only [zeroAt, Option.map_eq_some_iff, Option.bind_eq_some_iff] at hz
  obtain ⟨zv, ⟨ti, hti, hzv⟩, rfl⟩ := hz
  exact ⟨zv.cells, rfl, by simp [execOp, ho, Instr.alloc, zeroValue, typeInfo, hti, hzv, newVar, newRow]⟩
theorem store_run {o : Oper} {t t' : TypeId} {a : Act} {w : World} {d x n b : Nat} {cs : Array Value} (ho : o.op = .store t (.tmp d) (.tmp x)) (hsz : sizeAt P t = some n)
    (e : a.eval (.tmp d) = .pointer (some ⟨b, 0, none⟩)) (hl : (a.eval (.tmp x)).cells.size = n) (hb : w.heap[b]? = some (.cells cs t' (0, 0))) (hcs : cs.size = n) (hone : ∀ u ∈ (a.eval (.tmp x)).cells.toList, u.oneCell' = true) :
    ∃ w', (execOp a.eval o).run P w = .ok .skip w' ∧ w'.heap[b]? = some (.cells (a.eval (.tmp x)).cells t' (0, 0)) ∧ (∀ j, j ≠ b → w'.heap[j]? = w.heap[j]?) ∧ w'.heap.size = w.heap.size ∧ w'.os = w.os ∧ w'.tape = w.tape ∧ w'.output = w.output := by
  have hst := run_storeCells_at P b 0 t' (a.eval (.tmp x)).cells.toList 0 cs w hb (by simp; omega) hone
  simp only [Nat.add_zero, List.take_zero, List.nil_append, Nat.zero_add] at hst
  have e2 : cs.toList.drop (a.eval (.tmp x)).cells.toList.length = [] := List.drop_eq_nil_of_le (by simp; omega)
  rw [e2, List.append_nil] at hst
  refine ⟨_, ?_, setRow_heap w b cs _ t' _ hb, fun j hj => setRow_other w b j _ hj, by simp [World.setRow], rfl, rfl, rfl⟩
  simp [execOp, ho, e, Instr.storeAt, Instr.sureAddr, storeVar, sizeOf_run hsz, hl, hst]

theorem envOf_keep {l : List (ROper × Bool)} {s : Nat → Bool} {t : Nat} (hl : ∀ j, j < l.length → (l[j]?).bind (·.1.dst) ≠ some t) : ∀ m, m ≤ l.length → (envOf l E V s m)[t]? = (E 0)[t]?
  | 0, _ => rfl
  | m + 1, hm => by
    have ih := envOf_keep (s := s) hl m (by omega)
    simp only [envOf]
    split
    · rw [Env.put_get _ (hl m (by omega))]; exact ih
    · exact ih

theorem envrel_junk {β : Beta} {env : Env} {tmps : Array Value} (he : EnvRel β env tmps) {d : Nat} (hj : env[d]? = some junk) (cv : Value) : EnvRel β env (tmps.setIfInBounds d cv) := by
  refine ⟨by simpa using he.1, fun i v v' h1 h2 => ?_⟩
  by_cases e : i = d
  · subst e
    rw [hj] at h1; cases h1
    exact .junk _
  · have h3 : (tmps.toList.set d cv)[i]? = some v' := by simpa using h2
    rw [List.getElem?_set_ne (Ne.symm e)] at h3
    exact he.2 i v v' h1 h3

set_option maxHeartbeats 1600000 in
theorem drawF_sound {O : Array Oper} (hO : O = hideOps ops) (hd : drawOk O = true) (hc : O.toList.mapM (compileOper P O) = some rs) (ht : Trace P (rs.zip (freeList O)) K E G B V) (hB : B 0 = G 0) {q : Nat} (hqq : q = O.size)
    (hszs : ∀ h ∈ holds ops, ∃ o t n z, ops[h.1]? = some o ∧ o.op = .alloc t ∧ holdSize P ops h = some (h.2.2.1, n, .tmp h.2.2.2) ∧ zeroAt P t = some z ∧ sizeAt P t = some n ∧ z.length = n ∧
      (evalA (E q) (.tmp h.2.2.2)).cells.size = n ∧ (evalA (E q) (.tmp h.2.2.2)).cells.toList.all isAtom = true)
    (hjk : ∀ h ∈ holds ops, (E 0)[h.2.2.1]? = some junk)
    {base lo : Nat} {β₀ : Beta} {H₀ : AHeap} {w₀ : World} (hi₀ : Inj P β₀ H₀ base w₀) {ro : Option Nat} {rm : Nat}
    (hfin : ∀ (listed : Array Bool) (β : Beta) (a : Act) (w : World), (∀ j, j < q → listed.getD j false = true) →
      Inj P β (G q) base w → EnvRel β (E q) a.tmps → Marks lo a.defers w → Post β₀ H₀ w₀ β (G q) w → HeldSt ops P (fun t => evalA (E q) (.tmp t)) w₀.heap.size β listed a.tmps w → Out P lo β₀ H₀ base w₀ Q .normal a w) :
    ∀ (fuel : Nat) (listed : Array Bool) (u : List Nat) (k : Nat) (β : Beta) (a : Act) (w : World),
      listed.size = ops.size → Clo O (fun j => listed.getD j false) → (∀ j, j < q → listed.getD j false = false → j ∈ u) → u.length ≤ fuel → k ≤ q →
      (∀ (j : Nat) o, j < q → O[j]? = some o → turns ((freeList O).getD j false) o.op = true → (listed.getD j false = true ↔ j < k)) →
      Inj P β (G k) base w → EnvRel β (envOf (rs.zip (freeList O)) E V (fun j => listed.getD j false) q) a.tmps → Marks lo a.defers w → Post β₀ H₀ w₀ β (G k) w →
      HeldSt ops P (fun t => evalA (E q) (.tmp t)) w₀.heap.size β listed a.tmps w →
      wpAnyIn (wideF ro) rm P .any ops (Out P lo β₀ H₀ base w₀ Q) fuel listed a w := by
  have hOs : O.size = ops.size := by rw [hO]; exact hide_size
  have hq : q ≤ O.size := by omega
  have hlen : (rs.zip (freeList O)).length = q := by rw [zip_len hc]; omega
  have ht' : Trace P ((rs.zip (freeList O)).take q) K E G B V := by rw [List.take_of_length_le (by omega)]; exact ht
  have gz : ∀ (j : Nat) o, j < q → O[j]? = some o → ∃ r, (rs.zip (freeList O))[j]? = some (r, (freeList O).getD j false) ∧ compileOper P O o = some r := fun j o hj ho => zip_get hc ho
  have hOof : ∀ (j : Nat) o, ops[j]? = some o → ∃ o', O[j]? = some o' ∧ o'.after = o.after ∧ o'.guard = o.guard ∧ (isHeld (holds ops) j = false → o' = o) ∧ (isHeld (holds ops) j = true → o'.dst = none ∧ o'.op = .move (.const (.bool false))) := fun j o ho => by rw [hO]; exact hide_of ho
  have hOback : ∀ (j : Nat) o', O[j]? = some o' → ∃ o, ops[j]? = some o ∧ o'.after = o.after ∧ o'.guard = o.guard ∧ (isHeld (holds ops) j = false → o' = o) ∧ (∀ d, o'.dst = some d → o.dst = some d ∧ isHeld (holds ops) j = false) := fun j o' ho => by rw [hO] at ho; exact hide_back ho
  have ldst : ∀ (j t : Nat), j < q → ((rs.zip (freeList O))[j]?).bind (·.1.dst) = some t → ∃ o, ops[j]? = some o ∧ o.dst = some t ∧ isHeld (holds ops) j = false := fun j t hj hdj => by
    have hoj : O[j]? = some O[j] := Array.getElem?_eq_getElem (by omega)
    obtain ⟨rj, hrj, hcj⟩ := gz j _ hj hoj
    rw [hrj] at hdj
    have hdj : O[j].dst = some t := by rw [← (compileOper_eq hcj).1]; exact hdj
    obtain ⟨o, h1, _, _, _, h2⟩ := hOback j _ hoj
    exact ⟨o, h1, (h2 t hdj).1, (h2 t hdj).2⟩
  have fin : ∀ (listed : Array Bool) (k : Nat) (β : Beta) (a : Act) (w : World), k ≤ q → (∀ j, j < q → listed.getD j false = true) →
      (∀ (j : Nat) o, j < q → O[j]? = some o → turns ((freeList O).getD j false) o.op = true → (listed.getD j false = true ↔ j < k)) →
      Inj P β (G k) base w → EnvRel β (envOf (rs.zip (freeList O)) E V (fun j => listed.getD j false) q) a.tmps → Marks lo a.defers w → Post β₀ H₀ w₀ β (G k) w → HeldSt ops P (fun t => evalA (E q) (.tmp t)) w₀.heap.size β listed a.tmps w →
      Out P lo β₀ H₀ base w₀ Q .normal a w := fun listed k β a w hk hall htk hi he hm hp hs => by
    have e1 := envOf_all ht (s := fun j => listed.getD j false) q (by omega) hall
    rw [e1] at he
    have e2 : G q = G k := by
      have := tr_still hc ht' hq (p := k) (q - k) (by omega) fun j o h1 h2 h3 => by
        cases hx : turns ((freeList O).getD j false) o.op with
        | false => rfl
        | true => have := (htk j o (by omega) h3 hx).1 (hall j (by omega)); omega
      rwa [show k + (q - k) = q by omega] at this
    exact hfin listed β a w hall (e2 ▸ hi) he hm (e2 ▸ hp) hs
  have hready0 : ∀ (listed : Array Bool), listed.size = ops.size → (∀ j, j < q → listed.getD j false = true) → Region.ready .any ops listed = [] := fun listed hsz hall => by
    rw [List.eq_nil_iff_forall_not_mem]
    intro j hj
    obtain ⟨h1, o, ho, _⟩ := mem_ready.1 hj
    have hjs := (Array.getElem?_eq_some_iff.1 ho).1
    have := hall j (by omega)
    rw [(getD_flip h1).1] at this; cases this
  intro fuel
  induction fuel with
  | zero =>
    intro listed u k β a w hsz hclo hu hul hk htk hi he hm hp hst
    have hall : ∀ j, j < q → listed.getD j false = true := fun j hj => by
      cases hl : listed.getD j false with
      | true => rfl
      | false =>
        have h1 := hu j hj hl
        have : u = [] := List.length_eq_zero_iff.1 (by omega)
        rw [this] at h1; cases h1
    exact ⟨hready0 listed hsz hall, fin listed k β a w hk hall htk hi he hm hp hst⟩
  | succ fuel ih =>
    intro listed u k β a w hsz hclo hu hul hk htk hi he hm hp hst
    by_cases hall : ∀ j, j < q → listed.getD j false = true
    · exact ⟨fun _ => fin listed k β a w hk hall htk hi he hm hp hst, fun i hir => by rw [hready0 listed hsz hall] at hir; cases hir⟩
    refine ⟨fun hr => absurd (fun j => ?_) hall, fun i hir => ?_⟩
    · induction j using Nat.strongRecOn with
      | _ j ihj =>
        intro hj
        cases hl : listed.getD j false with
        | true => rfl
        | false =>
          have ho : ops[j]? = some ops[j] := Array.getElem?_eq_getElem (by omega)
          obtain ⟨o', ho', ha', _⟩ := hOof j _ ho
          have hl2 : listed.getD j true = false := by
            have : j < listed.size := by omega
            simpa [this] using hl
          have : j ∈ Region.ready .any ops listed := mem_ready.2 ⟨hl2, _, ho, fun e he' hb => by
            have hb2 := draw_back hd ho' e (by rw [ha']; exact he') hb
            exact ihj _ hb2 (by omega)⟩
          rw [hr] at this; cases this
    · obtain ⟨hl0, o, ho, hedge0⟩ := mem_ready.1 hir
      obtain ⟨o', ho', haft, hgrd, hsame, hhid⟩ := hOof i o ho
      have hedge : ∀ e ∈ o'.after, Region.binds .any e = true → listed.getD e.on false = true := fun e he' hb => hedge0 e (by rw [← haft]; exact he') hb
      have hin : i < q := by have := (Array.getElem?_eq_some_iff.1 ho).1; omega
      obtain ⟨hSi, hisz⟩ := getD_flip hl0
      obtain ⟨r, hcr, _, hstep⟩ := tr_step hc ht' hin ho'
      obtain ⟨r', hri, hcr'⟩ := gz i o' hin ho'
      obtain rfl : r = r' := Option.some.inj (hcr.symm.trans hcr')
      obtain ⟨hdst, hop⟩ := compileOper_eq hcr
      have hfr : (freeList O).getD i false = true → isCall o'.op = true := fun h => frees_call _ 0 i _ (by simpa using ho') h
      have ord_lt : ∀ (j : Nat) x, j < i → O[j]? = some x → listed.getD j false = false → pairOk O x o' ((freeList O).getD j false) ((freeList O).getD i false) = true := fun j x hj hx hS => by
        rcases draw_ord hd hj hx ho' with h | h
        · have := h _ hclo hedge; rw [hS] at this; cases this
        · exact h
      have ord_gt : ∀ (j : Nat) y, i < j → O[j]? = some y → listed.getD j false = true → pairOk O o' y ((freeList O).getD i false) ((freeList O).getD j false) = true := fun j y hj hy hS => by
        rcases draw_ord hd hj ho' hy with h | h
        · have := h _ hclo (hclo j y hy hS); rw [hSi] at this; cases this
        · exact h
      -- what it looks at is what it looked at in the order of the text
      have hslot : ∀ t, t ∈ o'.looksAt O → (envOf (rs.zip (freeList O)) E V (fun j => listed.getD j false) q)[t]? = (E i)[t]? := fun t htl => by
        have := envOf_slot ht (s := fun j => listed.getD j false) (i := i) (t := t) (fun j hj hdj => by
          have hj' : j < O.size := by omega
          have hoj : O[j]? = some O[j] := Array.getElem?_eq_getElem hj'
          obtain ⟨rj, hrj, hcj⟩ := gz j _ (by omega) hoj
          rw [hrj] at hdj
          replace hdj : O[j].dst = some t := by rw [← (compileOper_eq hcj).1]; exact hdj
          refine ⟨fun hji => ?_, fun hij => ?_⟩
          · cases hS : listed.getD j false with
            | true => rfl
            | false =>
              have := (pairOk_spec (ord_lt j _ hji hoj hS)).1
              exact absurd htl ((Oper.apart_spec this).1 t hdj)
          · cases hS : listed.getD j false with
            | false => rfl
            | true =>
              have hne : j ≠ i := fun e => by rw [e, hSi] at hS; cases hS
              have := (pairOk_spec (ord_gt j _ (by omega) hoj hS)).1
              exact absurd htl ((Oper.apart_spec this).2.2 t hdj)) q (by omega)
        rwa [show min q i = i by omega] at this
      generalize hES : envOf (rs.zip (freeList O)) E V (fun j => listed.getD j false) q = ES at *
      have heval : ∀ x ∈ o'.op.operands.toList, evalA ES x = evalA (E i) x := fun x hx => by
        cases x with
        | tmp t =>
          have : t ∈ o'.looksAt O := List.mem_append_left _ (List.mem_filterMap.2 ⟨.tmp t, hx, rfl⟩)
          simp only [evalA, List.getD, hslot t this]
        | _ => rfl
      have hrops : ∀ x ∈ ropOps (opOf P o'.op), evalA ES x = evalA (E i) x := fun x hx => by
        rcases formed_opOf (P := P) o'.op with ⟨r', hr', hf⟩ | hr'
        · rw [hr'] at hx; exact heval x (hf.ops x hx)
        · rw [hr'] at hx; simp [ropOps] at hx; subst hx; rfl
      have hwant : wantedA r.guard ES = wantedA r.guard (E i) := by
        cases hg : r.guard with
        | none => rfl
        | some sw =>
          obtain ⟨s, want⟩ := sw
          have : s ∈ o'.looksAt O := by
            unfold compileOper at hcr
            split at hcr
            · cases hcr; cases hg
            · rename_i g wt hgo
              simp only [Option.map_eq_some_iff] at hcr
              obtain ⟨s', hs', rfl⟩ := hcr
              simp only [Option.some.injEq, Prod.mk.injEq] at hg
              obtain ⟨rfl, rfl⟩ := hg
              exact List.mem_append_right _ (by rw [hgo]; simp only; rw [hs']; simp)
          simp only [wantedA, hslot s this]
      -- where the heap stands
      have hturn : turns ((freeList O).getD i false) o'.op = true → G k = G i := fun hti => by
        have hki : k ≤ i := by
          have := (htk i o' hin ho' hti)
          rw [hSi] at this
          have : ¬ i < k := fun h => by simp [h] at this
          omega
        have := tr_still hc ht' hq (p := k) (i - k) (by omega) fun j x h1 h2 h3 => by
          cases hx : turns ((freeList O).getD j false) x.op with
          | false => rfl
          | true =>
            have hS : listed.getD j false = false := by
              cases hS : listed.getD j false with
              | false => rfl
              | true => have := (htk j x (by omega) h3 hx).1 hS; omega
            exact absurd ⟨hx, hti⟩ (pairOk_spec (ord_lt j x (by omega) h3 hS)).2.2.2
        rw [show k + (i - k) = i by omega] at this
        exact this.symm
      have hpre : heapy o'.op = true → turns ((freeList O).getD i false) o'.op = false → (∃ N, G k = B i ++ N) ∧ ((∃ N, G k = G i ++ N) ∨ ∃ N, G i = G k ++ N) := fun hhp hti => by
        by_cases hki : k ≤ i
        · obtain ⟨⟨N, hN⟩, hBk⟩ := tr_grow hc ht' hq (p := k) (i - k) (by omega) fun j x h1 h2 h3 => by
            cases hx : Lq.writes x.op with
            | false => rfl
            | true =>
              have htj : turns ((freeList O).getD j false) x.op = true := by simp [turns, hx]
              have hS : listed.getD j false = false := by
                cases hS : listed.getD j false with
                | false => rfl
                | true => have := (htk j x (by omega) h3 htj).1 hS; omega
              exact absurd ⟨hx, hhp⟩ (pairOk_spec (ord_lt j x (by omega) h3 hS)).2.1
          rw [show k + (i - k) = i by omega] at hN hBk
          obtain ⟨N', hN'⟩ := tr_base hc ht' hq hB k hk
          exact ⟨⟨N', by rw [hN', hBk]⟩, .inr ⟨N, hN⟩⟩
        · obtain ⟨⟨N, hN⟩, hBk⟩ := tr_grow hc ht' hq (p := i) (k - i) (by omega) fun j x h1 h2 h3 => by
            cases hx : Lq.writes x.op with
            | false => rfl
            | true =>
              have htj : turns ((freeList O).getD j false) x.op = true := by simp [turns, hx]
              have hne : j ≠ i := fun e => by subst e; rw [ho'] at h3; cases h3; rw [hti] at htj; cases htj
              have hS : listed.getD j false = true := (htk j x (by omega) h3 htj).2 (by omega)
              exact absurd ⟨hhp, hx⟩ (pairOk_spec (ord_gt j x (by omega) h3 hS)).2.2.1
          rw [show i + (k - i) = k by omega] at hN hBk
          obtain ⟨N', hN'⟩ := tr_base hc ht' hq hB i (by omega)
          exact ⟨⟨N' ++ N, by rw [hN, hN', List.append_assoc]⟩, .inl ⟨N, hN⟩⟩
      -- what is left of the order behind it
      obtain ⟨k', hk', hk'le, htk'⟩ : ∃ k', (k' = if turns ((freeList O).getD i false) o'.op = true then i + 1 else k) ∧ k' ≤ q ∧
          (∀ (j : Nat) x, j < q → O[j]? = some x → turns ((freeList O).getD j false) x.op = true → ((listed.setIfInBounds i true).getD j false = true ↔ j < k')) := by
        refine ⟨_, rfl, by split <;> omega, fun j x hjq hx htx => ?_⟩
        split
        · rename_i hti
          by_cases hji : i = j
          · subst hji; simp [hisz]
          · rw [getD_set_ne false hji]
            cases hS : listed.getD j false with
            | true =>
              have : ¬ i < j := fun h => absurd ⟨hti, htx⟩ (pairOk_spec (ord_gt j x h hx hS)).2.2.2
              simp; omega
            | false =>
              have : ¬ j < i := fun h => absurd ⟨htx, hti⟩ (pairOk_spec (ord_lt j x h hx hS)).2.2.2
              simp; omega
        · rename_i hti
          have hji : i ≠ j := fun e => by subst e; rw [ho'] at hx; cases hx; exact hti htx
          rw [getD_set_ne false hji]
          exact htk j x hjq hx htx
      have next : ∀ (a' : Act) (β' : Beta) (w' : World), Inj P β' (G k') base w' → EnvRel β' (ES.put o'.dst (V i)) a'.tmps → Marks lo a'.defers w' → Post β₀ H₀ w₀ β' (G k') w' →
          HeldSt ops P (fun t => evalA (E q) (.tmp t)) w₀.heap.size β' (listed.setIfInBounds i true) a'.tmps w' → wpAnyIn (wideF ro) rm P .any ops (Out P lo β₀ H₀ base w₀ Q) fuel (listed.setIfInBounds i true) a' w' := fun a' β' w' hi' he' hm' hp' hst' => by
        refine ih _ (u.erase i) k' β' _ w' (by simpa using hsz) ?_ ?_ ?_ hk'le htk' hi' ?_ hm' hp' hst'
        · intro j x hx hS e he' hb
          by_cases hji : i = j
          · subst hji; rw [ho'] at hx; cases hx; exact getD_set_true (hedge e he' hb)
          · have hS' : (listed.setIfInBounds i true).getD j false = true := hS
            rw [getD_set_ne false hji] at hS'
            exact getD_set_true (hclo j x hx hS' e he' hb)
        · intro j hj hS
          have hji : j ≠ i := fun e => by subst e; simp [hisz] at hS
          rw [getD_set_ne false (Ne.symm hji)] at hS
          exact (List.mem_erase_of_ne hji).2 (hu j hj hS)
        · have := List.length_pos_of_mem (hu i hin hSi)
          rw [List.length_erase_of_mem (hu i hin hSi)]; omega
        · have := envOf_add (l := rs.zip (freeList O)) (E := E) (V := V) (s := fun j => listed.getD j false) (s' := fun j => (listed.setIfInBounds i true).getD j false) (i := i) (by omega) hSi
            (by simp [hisz]) (fun j hj => getD_set_ne false (Ne.symm hj)) (fun j hij hj hS d hdd => by
              have hoj : O[j]? = some O[j] := Array.getElem?_eq_getElem (by omega)
              obtain ⟨rj, hrj, hcj⟩ := gz j _ (by omega) hoj
              rw [hri] at hdd
              rw [hrj]
              intro hdj
              have h1 := (pairOk_spec (ord_gt j _ hij hoj hS)).1
              exact (Oper.apart_spec h1).2.1 d (by rw [← hdst]; exact hdd) (by rw [← (compileOper_eq hcj).1]; exact hdj)) q (by omega)
          rw [this, if_pos hin, hES, hri]
          have hb : ((some (r, (freeList O).getD i false)).bind fun x => x.1.dst) = o'.dst := hdst
          rw [hb]
          exact he'
      cases hH : isHeld (holds ops) i with
      | false =>
        obtain rfl := hsame hH
        have next1 : ∀ (v cv : Value) (β' : Beta) (w' : World), v = V i → VR β' v cv → Inj P β' (G k') base w' → Post β (G k) w β' (G k') w' →
            wpAnyIn (wideF ro) rm P .any ops (Out P lo β₀ H₀ base w₀ Q) fuel (listed.setIfInBounds i true) (a.put o'.dst cv) w' := fun v cv β' w' hv hvr hi' hp' => by
          subst hv
          exact next _ β' w' hi' (EnvRel.put (EnvRel.mono (hp'.le hi.dom) he) o'.dst hvr) ((hm.step hi hp').put) (hp.trans hi₀.dom hp') (hst.step hi.dom hp' ho hH)
        unfold wpOpIn
        simp only [ho]
        rcases hstep with ⟨hw, hv, hg, _⟩ | ⟨hw, hs, _⟩
        · have hwf := wanted_rel he (compile_unhide (hO ▸ hcr)) (hwant.trans hw)
          rw [if_neg (by rw [hwf]; simp)]
          have hGk : G k' = G k := by
            rw [hk']; split
            · rename_i hti; rw [hg, hturn hti]
            · rfl
          refine ⟨fun f _ => wideF_fn ro f, next1 undef undef β w hv.symm (vr_undef β) (hGk ▸ hi) (hGk ▸ Post.refl β (G k) w hi.dom)⟩
        · have hwt := wanted_rel he (compile_unhide (hO ▸ hcr)) (hwant.trans hw)
          rw [if_pos hwt]
          have hA : AOp P (opOf P o'.op) ES (G k) (fun v H' => v = V i ∧ H' = G k') := by
            rcases step_cases hs with ⟨f, args, hcall⟩ | ⟨hne, hrun⟩
            · have hf := hrops f (by rw [hcall]; simp [ropOps])
              have hargs : args.map (evalA ES) = args.map (evalA (E i)) := List.map_congr_left fun x hx => hrops x (by rw [hcall]; simp [ropOps, hx])
              obtain ⟨c, hoc, hcal, _⟩ := opOf_call hcall
              have hlays : Lq.lays o'.op = true := by rw [hoc]; simp [Lq.lays, hcal]
              have hwr : Lq.writes o'.op = false := by rw [hoc]; simp [Lq.writes, hcal]
              rw [hcall] at hs ⊢
              show AInvoke P (evalA ES f) (args.map (evalA ES)) (G k) _
              rw [hf, hargs]
              simp only [AStep] at hs
              split at hs
              · rename_i hfree
                have hti : turns ((freeList O).getD i false) o'.op = false := by simp only [turns, hwr, hfree, Bool.not_true, Bool.and_false, Bool.or_self]
                have hkk : k' = k := by rw [hk', if_neg (by rw [hti]; simp)]
                rw [hkk]
                exact hs.2 (G k) (hpre (by simp [heapy, hlays]) hti).1
              · rename_i hfree
                have hti : turns ((freeList O).getD i false) o'.op = true := by
                  have : (freeList O).getD i false = false := by simpa using hfree
                  simp only [turns, hlays, this, Bool.not_false, Bool.and_self, Bool.or_true]
                have hkk : k' = i + 1 := by rw [hk', if_pos hti]
                rw [hkk, hturn hti]
                exact hs.2
            · have hrun' : ropRun (opOf P o'.op) (evalA ES) (G i) = some (V i, G (i + 1)) := by rw [ropRun_congr hrops]; exact hrun
              have key : ropRun (opOf P o'.op) (evalA ES) (G k) = some (V i, G k') := by
                cases hti : turns ((freeList O).getD i false) o'.op with
                | true =>
                  have hkk : k' = i + 1 := by rw [hk', if_pos hti]
                  rw [hkk, hturn hti]; exact hrun'
                | false =>
                  have hkk : k' = k := by rw [hk', if_neg (by rw [hti]; simp)]
                  rw [hkk]
                  have hnf : opOf P o'.op ≠ .extract (.const junk) 0 := fun e => by rw [e, fail_run rfl] at hrun; cases hrun
                  obtain ⟨c1, c2, c3⟩ := class_of hfr hti hne hnf
                  cases hload : ropLoads (opOf P o'.op) with
                  | false => exact ropRun_any c1 c2 hload hrun'
                  | true =>
                    rcases (hpre (c3 hload) hti).2 with ⟨N, hN⟩ | ⟨N, hN⟩
                    · rw [hN]; exact load_fwd hload hrun'
                    · rw [hN] at hrun'
                      refine load_back hload hrun' fun x hx id off hid => ?_
                      have hxo : x ∈ o'.op.operands.toList := by
                        rcases formed_opOf (P := P) o'.op with ⟨r', hr', hf'⟩ | hr'
                        · rw [hr'] at hx; exact hf'.ops x hx
                        · exact absurd hr' hnf
                      have hv := eval_rel hi he (opOf_opd hnf x hxo)
                      rw [hid] at hv
                      generalize a.eval x = cv at hv
                      cases hv with
                      | ptr h => exact hi.dom _ _ h
              unfold AOp
              split
              · rename_i f args hcall; exact absurd hcall (hne f args)
              · exact ⟨_, _, key, rfl, rfl⟩
          refine oper_sound hi he hA fun v cv β' H' w' hK hvr hi' hp' => ?_
          obtain ⟨hv, rfl⟩ := hK
          exact next1 v cv β' w' hv hvr hi' hp'
      | true =>
        obtain ⟨hdn, hmv⟩ := hhid hH
        have hti : turns ((freeList O).getD i false) o'.op = false := by rw [hmv]; rfl
        have hkk : k' = k := by rw [hk', if_neg (by rw [hti]; simp)]
        subst hkk
        rw [hdn] at next
        simp only [Env.put] at next
        obtain ⟨h, hh, hij⟩ := isHeld_spec hH
        obtain ⟨oa, t, n, z, ha1, ha2, ha3, ha4, ha5, ha6, ha7, ha8⟩ := hszs h hh
        obtain ⟨o1, t1, y, b1, b2, b3, b4, b5, b6, b7, b8, b9, b10⟩ := (mem_holds hh).2.are
        have hld := (mem_holds hh).2
        rw [ha1] at b1
        obtain rfl := Option.some.inj b1
        rw [ha2] at b2
        obtain rfl : t = t1 := by cases b2; rfl
        have hlo : ∀ x ∈ holds ops, x ≠ h → (i ≠ x.1 ∧ i ≠ x.2.1) := fun x hx hne => by
          rcases hij with e | e
          · exact ⟨fun e2 => hne (holds_eq1 hx hh (by omega)), fun e2 => holds_ij hh hx (by omega)⟩
          · exact ⟨fun e2 => holds_ij hx hh (by omega), fun e2 => hne (holds_eqj hx hh (by omega))⟩
        have hESd : ES[h.2.2.1]? = some junk := by
          rw [← hES, envOf_keep (fun j hj hdj => by
            obtain ⟨oj, k1, k2, k3⟩ := ldst j _ (by omega) hdj
            have := hld.wd _ _ k1 k2
            rw [this, (isHeld_of hh).1] at k3; cases k3) q (by omega)]
          exact hjk h hh
        unfold wpOpIn
        simp only [ho]
        rcases hij with hi1 | hj1
        · -- a box is laid
          rw [hi1, ho] at ha1
          obtain rfl := Option.some.inj ha1
          rw [if_pos (by unfold Region.wanted; rw [b4])]
          refine ⟨fun f _ => wideF_fn ro f, ?_⟩
          rw [Oper.semAt_eq _ _ _ (fun c => by rw [ha2]; simp)]
          obtain ⟨zc, hzc, hrun⟩ := alloc_run (P := P) (ρ := a.eval) (w := w) ha2 ha4
          rw [hrun]
          show wpAnyIn _ _ _ _ _ _ _ _ _ _
          have hpl := Post.lay hi (.cells zc t) (w' := { w with heap := w.heap.push (.cells zc t) }) rfl rfl rfl rfl
          have hdlt : h.2.2.1 < a.tmps.size := by
            have h1 := (List.getElem?_eq_some_iff.1 hESd).1
            have h2 := he.1
            simp at h2; omega
          refine next _ β _ (Inj.lay hi (.cells zc t) rfl) ?_ ((hm.step hi hpl).put) (hp.trans hi₀.dom hpl) ?_
          · rw [b3]
            exact envrel_junk he hESd _
          · refine ⟨fun x hx hlx => ?_, fun x hx x' hx' hne h1 h2 b => ?_⟩
            · by_cases hxh : x = h
              · subst hxh
                refine ⟨w.heap.size, by rw [b3]; exact put_get_eq hdlt, hp.size, by simp, fun id p hid hb => by have := hi.lt id p hid; omega, zc, t, n, by simp, ha3, by have := congrArg List.length hzc; simp at this; omega, fun hj => ?_⟩
                have hlt := hld.lt
                rw [getD_set_ne false (by omega)] at hj
                obtain ⟨e, he1, he2, he3⟩ := b9
                obtain ⟨y', hy1, hy2, _⟩ := hOof _ _ b5
                have : listed.getD e.on false = true := hclo _ y' hy1 hj e (by rw [hy2]; exact he1) he3
                rw [he2, hi1, hSi] at this; cases this
              · obtain ⟨n1, n2⟩ := hlo x hx hxh
                rw [getD_set_ne false n1] at hlx
                obtain ⟨b, e1, e2, e3, e4, cs, tt, nn, e5, e6, e7, e8⟩ := hst.box x hx hlx
                refine ⟨b, ?_, e2, by simp; omega, e4, cs, tt, nn, ?_, e6, e7, fun hj => ?_⟩
                · rw [put_get_ne (fun c hcc e => hxh (holds_eqd hx hh (by rw [b3] at hcc; cases hcc; exact e.symm)))]; exact e1
                · simp only [Array.getElem?_push]; rw [if_neg (by omega)]; exact e5
                · rw [getD_set_ne false n2] at hj; exact e8 hj
            · have key : ∀ x ∈ holds ops, x ≠ h → (listed.setIfInBounds i true).getD x.1 false = true → ∀ b, (a.put o.dst (.pointer (some ⟨w.heap.size, 0, none⟩))).tmps[x.2.2.1]? = some (.pointer (some ⟨b, 0, none⟩)) → b < w.heap.size ∧ a.tmps[x.2.2.1]? = some (.pointer (some ⟨b, 0, none⟩)) ∧ listed.getD x.1 false = true := fun x hx hxh hlx b hb => by
                obtain ⟨n1, n2⟩ := hlo x hx hxh
                rw [getD_set_ne false n1] at hlx
                obtain ⟨b', e1, e2, e3, _⟩ := hst.box x hx hlx
                rw [put_get_ne (fun c hcc e => hxh (holds_eqd hx hh (by rw [b3] at hcc; cases hcc; exact e.symm)))] at hb
                rw [hb] at e1
                cases e1
                exact ⟨e3, hb, hlx⟩
              have self : ∀ b, (a.put o.dst (.pointer (some ⟨w.heap.size, 0, none⟩))).tmps[h.2.2.1]? = some (.pointer (some ⟨b, 0, none⟩)) → b = w.heap.size := fun b hb => by
                rw [b3, put_get_eq hdlt] at hb; cases hb; rfl
              intro hb hb'
              by_cases hxh : x = h
              · subst hxh
                have hx2 : x' ≠ x := fun e => hne (by rw [e])
                have := (key x' hx' hx2 h2 b hb').1
                have := self b hb
                omega
              · by_cases hxh' : x' = h
                · subst hxh'
                  have := (key x hx hxh h1 b hb).1
                  have := self b hb'
                  omega
                · obtain ⟨_, k1, k2⟩ := key x hx hxh h1 b hb
                  obtain ⟨_, k3, k4⟩ := key x' hx' hxh' h2 b hb'
                  exact hst.apart x hx x' hx' hne k2 k4 b k1 k3
        · -- a box is filled
          rw [hj1, ho] at b5
          obtain rfl := Option.some.inj b5
          rw [if_pos (by unfold Region.wanted; rw [b8])]
          refine ⟨fun f _ => wideF_fn ro f, ?_⟩
          rw [Oper.semAt_eq _ _ _ (fun c => by rw [b6]; simp)]
          have hli : listed.getD h.1 false = true := by
            obtain ⟨e, he1, he2, he3⟩ := b9
            rw [← he2]
            exact hedge0 e he1 he3
          obtain ⟨b, e1, e2, e3, e4, cs, tt, nn, e5, e6, e7, e8⟩ := hst.box h hh hli
          rw [ha3] at e6
          obtain rfl : n = nn := by cases e6; rfl
          have hev : evalA ES (.tmp h.2.2.2) = evalA (E q) (.tmp h.2.2.2) := by
            have := envOf_slot ht (s := fun j => listed.getD j false) (i := q) (t := h.2.2.2) (fun j hj hdj => ⟨fun _ => by
              obtain ⟨oj, k1, k2, k3⟩ := ldst j _ (by omega) hdj
              obtain ⟨e, g1, g2, g3⟩ := b10 j oj k1 k2
              rw [← g2]
              exact hedge0 e g1 g3, fun hge => by omega⟩) q (by omega)
            rw [hES, Nat.min_self] at this
            simp only [evalA, List.getD, this]
          have hvr := eval_rel hi he (x := .tmp h.2.2.2) rfl
          rw [hev] at hvr
          have hcells := cells_val hvr (no_chan ha8)
          have hsz2 : (a.eval (.tmp h.2.2.2)).cells.size = n := by have := hcells.1; simp at this; omega
          have hpt : a.eval (.tmp h.2.2.1) = .pointer (some ⟨b, 0, none⟩) := by
            simp only [Act.eval, e1, Option.getD_some, Array.getD_eq_getD_getElem?]
          obtain ⟨w', hrun, hw1, hw2, hw3, hw4, hw5, hw6⟩ := store_run (P := P) b6 ha5 hpt hsz2 e5 e7 (atoms_one hcells ha8)
          rw [hrun]
          show wpAnyIn _ _ _ _ _ _ _ _ _ _
          rw [b7]
          show wpAnyIn _ _ _ _ _ _ _ _ a w'
          have hi' : Inj P β (G k') base w' := hi.same (by omega) fun id p hid _ => hw2 p.b (e4 id p hid)
          have hp' : Post β₀ H₀ w₀ β (G k') w' := { hp with os := hw4.trans hp.os, tape := hw5.trans hp.tape, output := hw6.trans hp.output, size := (by have := hp.size; omega), frame := fun b' hb' hn => (by
            rw [hw2 b' (by omega)]; exact hp.frame b' hb' hn) }
          have hm' : Marks lo a.defers w' := by
            obtain ⟨m1, ms, m2, m3, m4⟩ := hm
            refine ⟨by omega, ms, m2, m3, fun m hmm => ⟨(m4 m hmm).1, ?_⟩⟩
            rw [hw2 m (fun e => by subst e; have := (m4 m hmm).2; rw [e5] at this; cases this)]
            exact (m4 m hmm).2
          refine next a β w' hi' he hm' hp' ⟨fun x hx hlx => ?_, fun x hx x' hx' hne h1 h2 => ?_⟩
          · by_cases hxh : x = h
            · subst hxh
              exact ⟨b, e1, e2, by omega, e4, _, tt, n, hw1, ha3, hsz2, fun _ => hcells⟩
            · obtain ⟨n1, n2⟩ := hlo x hx hxh
              rw [getD_set_ne false n1] at hlx
              obtain ⟨b', f1, f2, f3, f4, cs', tt', nn', f5, f6, f7, f8⟩ := hst.box x hx hlx
              have hbb : b' ≠ b := fun e => by
                subst e
                exact hst.apart x hx h hh (fun e => hxh (holds_eq1 hx hh e)) hlx hli _ f1 e1
              exact ⟨b', f1, f2, by omega, f4, cs', tt', nn', by rw [hw2 b' hbb]; exact f5, f6, f7, fun hj => by rw [getD_set_ne false n2] at hj; exact f8 hj⟩
          · have g : ∀ x ∈ holds ops, (listed.setIfInBounds i true).getD x.1 false = true → listed.getD x.1 false = true := fun x hx hlx => by
              by_cases hxh : x = h
              · subst hxh; exact hli
              · rwa [getD_set_ne false (hlo x hx hxh).1] at hlx
            exact hst.apart x hx x' hx' hne (g x hx h1) (g x' hx' h2)
end
end Go.Lq

namespace Go.Lq
open Go
def fillF : List (Nat × Nat × Operand) → (Env → AHeap → Prop) → Env → AHeap → Prop
  | [], K, e, H => K e H
  | (d, n, x) :: fs, K, e, H => (evalA e x).cells.size = n ∧ (evalA e x).cells.toList.all isAtom = true ∧ fillF fs K (e.set d (.pointer (some ⟨H.length, 0, none⟩))) (H ++ [.cells true 0 (evalA e x).cells.toList])
def junkF : List (Nat × Nat × Operand) → Env → Env
  | [], e => e
  | (d, _, _) :: fs, e => junkF fs (e.set d junk)
theorem junkF_len : ∀ (fs : List (Nat × Nat × Operand)) (e : Env), (junkF fs e).length = e.length
  | [], e => rfl
  | (d, _, _) :: fs, e => by rw [junkF, junkF_len fs, List.length_set]
theorem junkF_get : ∀ (fs : List (Nat × Nat × Operand)) (e : Env) (t : Nat), (junkF fs e)[t]? = e[t]? ∨ (junkF fs e)[t]? = some junk
  | [], e, t => .inl rfl
  | (d, _, _) :: fs, e, t => by
    rw [junkF]
    rcases junkF_get fs (e.set d junk) t with h | h
    · rw [h, List.getElem?_set]
      split
      · split
        · exact .inr rfl
        · rename_i h1 h2; left; rw [List.getElem?_eq_none (by omega)]
      · exact .inl rfl
    · exact .inr h
theorem junkF_mem : ∀ (fs : List (Nat × Nat × Operand)) (e : Env) (f : Nat × Nat × Operand), f ∈ fs → f.1 < e.length → (junkF fs e)[f.1]? = some junk
  | (d, n, x) :: fs, e, f, hf, hl => by
    rw [junkF]
    rcases List.mem_cons.1 hf with rfl | hf
    · rcases junkF_get fs (e.set d junk) d with h | h
      · rw [h, List.getElem?_set_self hl]
      · exact h
    · exact junkF_mem fs _ f hf (by simpa using hl)
theorem junkF_rel {β : Beta} {e : Env} {tmps : Array Value} (h : EnvRel β e tmps) (fs : List (Nat × Nat × Operand)) : EnvRel β (junkF fs e) tmps := by
  refine ⟨by rw [junkF_len]; exact h.1, fun i v v' h1 h2 => ?_⟩
  rcases junkF_get fs e i with k | k
  · rw [k] at h1; exact h.2 i v v' h1 h2
  · rw [k] at h1; cases h1; exact .junk _

theorem Post.grow0 {β₀ β : Beta} {H₀ H : AHeap} {w₀ w : World} (hd : ∀ id p, β₀ id = some p → id < H₀.length) (hp : Post β₀ H₀ w₀ β H w) {b : Nat} (hb : w₀.heap.size ≤ b) (x : AObj) (r : Nat) :
    Post β₀ H₀ w₀ (β.ext H.length ⟨b, 0, r⟩) (H ++ [x]) w where
  os := hp.os
  tape := hp.tape
  output := hp.output
  size := hp.size
  len := by have := hp.len; simp; omega
  old := fun id h => by rw [Beta.ext_ne (by have := hp.len; omega)]; exact hp.old id h
  dead := fun id h hm => hp.dead id h (by rwa [mutAt_append (by have := hp.len; omega)] at hm)
  live := fun id h hm => hp.live id h (by rwa [liveAt_append (by have := hp.len; omega)] at hm)
  frame := hp.frame
  fresh := fun id p hid hb' hlt => by
    by_cases e : id = H.length
    · subst e; rw [Beta.ext_self] at hb'; cases hb'; simp at hlt; omega
    · rw [Beta.ext_ne e] at hb'
      obtain ⟨j, q, h1, h2, h3, h4⟩ := hp.fresh id p hid hb' hlt
      exact ⟨j, q, h1, h2, h3, by rw [liveAt_append (by have := hp.len; have := hd j q h1; omega)]; exact h4⟩

section
variable {P : Program} {ops : Array Oper} {K : Env → AHeap → Prop}
theorem hold_inv {h : Nat × Nat × Nat × Nat} {f : Nat × Nat × Operand} (hf : holdSize P ops h = some f) : ∃ o t n z, ops[h.1]? = some o ∧ o.op = .alloc t ∧ f = (h.2.2.1, n, .tmp h.2.2.2) ∧ zeroAt P t = some z ∧ sizeAt P t = some n ∧ z.length = n := by
  unfold holdSize at hf
  split at hf
  · rename_i o ho
    split at hf
    · rename_i t ht
      split at hf
      · rename_i z n h1 h2
        split at hf
        · rename_i h3
          cases hf
          exact ⟨o, t, n, z, ho, ht, rfl, h1, h2, h3⟩
        · cases hf
      · cases hf
    · cases hf
  · cases hf
theorem fill_vals : ∀ (L : List (Nat × Nat × Nat × Nat)) (fs : List (Nat × Nat × Operand)), L.mapM (holdSize P ops) = some fs → (∀ h ∈ L, h ∈ holds ops) → ∀ (env : Env) (H : AHeap), fillF fs K env H →
    ∀ h ∈ L, ∃ o t n z, ops[h.1]? = some o ∧ o.op = .alloc t ∧ holdSize P ops h = some (h.2.2.1, n, .tmp h.2.2.2) ∧ zeroAt P t = some z ∧ sizeAt P t = some n ∧ z.length = n ∧ (evalA env (.tmp h.2.2.2)).cells.size = n ∧ (evalA env (.tmp h.2.2.2)).cells.toList.all isAtom = true
  | [], fs, _, _, _, _, _, h, hh => by cases hh
  | g :: L, fs, hm, hs, env, H, hf, h, hh => by
    obtain ⟨f, fs', h1, h2, rfl⟩ := mapM_cons_some hm
    obtain ⟨o, t, n, z, g1, g2, rfl, g4, g5, g6⟩ := hold_inv h1
    obtain ⟨k1, k2, k3⟩ := hf
    rcases List.mem_cons.1 hh with rfl | hh'
    · exact ⟨o, t, n, z, g1, g2, h1, g4, g5, g6, k1, k2⟩
    · obtain ⟨o', t', n', z', a1, a2, a3, a4, a5, a6, a7, a8⟩ := fill_vals L fs' h2 (fun x hx => hs x (by simp [hx])) _ _ k3 h hh'
      have e : evalA (env.set g.2.2.1 (.pointer (some ⟨H.length, 0, none⟩))) (.tmp h.2.2.2) = evalA env (.tmp h.2.2.2) := by
        have hne := holds_xd (hs g (by simp)) (hs h hh)
        simp only [evalA, List.getD]
        rw [List.getElem?_set_ne (Ne.symm hne)]
      rw [e] at a7 a8
      exact ⟨o', t', n', z', a1, a2, a3, a4, a5, a6, a7, a8⟩
theorem fill_sound {base : Nat} {β₀ : Beta} {H₀ : AHeap} {w₀ w : World} {tmps : Array Value} (hi₀ : Inj P β₀ H₀ base w₀) :
    ∀ (L : List (Nat × Nat × Nat × Nat)) (fs : List (Nat × Nat × Operand)), L.mapM (holdSize P ops) = some fs → (∀ h ∈ L, h ∈ holds ops) → L.Pairwise (fun h h' => h.1 ≠ h'.1) →
    ∀ (β : Beta) (H : AHeap) (env : Env), Inj P β H base w → EnvRel β env tmps → Post β₀ H₀ w₀ β H w → fillF fs K env H →
    (∀ h ∈ L, ∃ b cs t, tmps[h.2.2.1]? = some (.pointer (some ⟨b, 0, none⟩)) ∧ w₀.heap.size ≤ b ∧ b < w.heap.size ∧ (∀ id p, β id = some p → p.b ≠ b) ∧ w.heap[b]? = some (.cells cs t (0, 0)) ∧ VRs β (evalA env (.tmp h.2.2.2)).cells.toList cs.toList) →
    (∀ h ∈ L, ∀ h' ∈ L, h.1 ≠ h'.1 → ∀ b, tmps[h.2.2.1]? = some (.pointer (some ⟨b, 0, none⟩)) → tmps[h'.2.2.1]? ≠ some (.pointer (some ⟨b, 0, none⟩))) →
    ∃ β' H' env', K env' H' ∧ Inj P β' H' base w ∧ EnvRel β' env' tmps ∧ Post β₀ H₀ w₀ β' H' w
  | [], fs, hm, _, _, β, H, env, hi, he, hp, hf, _, _ => by
    simp at hm; subst hm
    exact ⟨β, H, env, hf, hi, he, hp⟩
  | g :: L, fs, hm, hs, hpw, β, H, env, hi, he, hp, hf, hbox, hap => by
    obtain ⟨f, fs', h1, h2, rfl⟩ := mapM_cons_some hm
    obtain ⟨o, t, n, z, g1, g2, rfl, g4, g5, g6⟩ := hold_inv h1
    obtain ⟨k1, k2, k3⟩ := hf
    obtain ⟨b, cs, tt, b1, b2, b3, b4, b5, b6⟩ := hbox g (by simp)
    have hle := Beta.ext_le (p := ⟨b, 0, 0⟩) hi.none_at
    have hi1 : Inj P (β.ext H.length ⟨b, 0, 0⟩) (H ++ [.cells true 0 (evalA env (.tmp g.2.2.2)).cells.toList]) base w :=
      hi.grow _ ⟨b, 0, 0⟩ b3 (Nat.le_refl _) (fun _ _ _ => rfl) (fun id q hq hqb => absurd hqb (b4 id q hq)) ⟨cs, tt, (0, 0), b5, fun i v hv => by
        have hlt : i < cs.toList.length := by have := (List.getElem?_eq_some_iff.1 hv).1; have := b6.1; omega
        refine ⟨cs.toList[i], by simp at hlt; simp [hlt], ?_⟩
        exact (b6.2 i v _ hv (by simp)).mono hle, fun _ => ⟨rfl, rfl, Nat.le_trans hi₀.base_le b2, by simp⟩⟩
    have he1 : EnvRel (β.ext H.length ⟨b, 0, 0⟩) (env.set g.2.2.1 (.pointer (some ⟨H.length, 0, none⟩))) tmps := by
      refine ⟨by rw [List.length_set]; exact he.1, fun i v v' e1 e2 => ?_⟩
      by_cases e : i = g.2.2.1
      · subst e
        have hlt : g.2.2.1 < env.length := by have := (List.getElem?_eq_some_iff.1 e1).1; simpa using this
        rw [List.getElem?_set_self hlt] at e1
        cases e1
        have : tmps.toList[g.2.2.1]? = some (.pointer (some ⟨b, 0, none⟩)) := by simpa using b1
        rw [this] at e2
        cases e2
        have := VR.ptr (off := 0) (Beta.ext_self (β := β) (n := H.length) (p := ⟨b, 0, 0⟩))
        simpa using this
      · rw [List.getElem?_set_ne (Ne.symm e)] at e1
        exact (he.2 i v v' e1 e2).mono hle
    refine fill_sound hi₀ L fs' h2 (fun x hx => hs x (by simp [hx])) (List.pairwise_cons.1 hpw).2 _ _ _ hi1 he1 (hp.grow0 hi₀.dom b2 _ 0) k3 (fun x hx => ?_) (fun x hx x' hx' => hap x (by simp [hx]) x' (by simp [hx']))
    obtain ⟨b', cs', t', f1, f2, f3, f4, f5, f6⟩ := hbox x (by simp [hx])
    refine ⟨b', cs', t', f1, f2, f3, fun id p hid hb => ?_, f5, ?_⟩
    · by_cases e : id = H.length
      · subst e
        rw [Beta.ext_self] at hid
        cases hid
        dsimp only at hb
        subst hb
        exact hap g (by simp) x (by simp [hx]) ((List.pairwise_cons.1 hpw).1 x hx) _ b1 f1
      · rw [Beta.ext_ne e] at hid
        exact f4 id p hid hb
    · have e : evalA (env.set g.2.2.1 (.pointer (some ⟨H.length, 0, none⟩))) (.tmp x.2.2.2) = evalA env (.tmp x.2.2.2) := by
        have hne := holds_xd (hs g (by simp)) (hs x (by simp [hx]))
        simp only [evalA, List.getD]
        rw [List.getElem?_set_ne (Ne.symm hne)]
      rw [e]
      exact f6.mono hle

theorem awp_drawF {ar : Option Nat} {Q : AExit → Env → AHeap → Prop} {fs : List (Nat × Nat × Operand)} {l : List (ROper × Bool)} {env : Env} {H : AHeap} (hl : fs.all (fun f => decide (f.1 < env.length)) = true)
    (h : ADraw P l H (fillF fs (Q .normal)) (junkF fs env) H) : AWP P ar (.drawF fs l) Q env H :=
  fun hm ro n base lo β w a code hc _ hi he hk => by
    obtain ⟨id, ops, rs, rfl, hd, hnv, hfs, h1, rfl⟩ := compile_drawF hc
    obtain ⟨E, G, B, V, e1, e2, e3, ht⟩ := h.trace
    have hOs : (hideOps ops).size = ops.size := hide_size
    have hlen := zip_len h1
    have hv : vix (rs.zip (freeList (hideOps ops))) = (rs.zip (freeList (hideOps ops))).length := by
      rcases Nat.lt_or_ge (vix (rs.zip (freeList (hideOps ops)))) (rs.zip (freeList (hideOps ops))).length with hlt | hge
      · obtain ⟨o, fr, g1, g2⟩ := vix_at hlt
        have ho : (hideOps ops)[vix (rs.zip (freeList (hideOps ops)))]? = some (hideOps ops)[vix (rs.zip (freeList (hideOps ops)))] := Array.getElem?_eq_getElem (by omega)
        obtain ⟨r, g3, g4⟩ := zip_get h1 ho
        rw [g1] at g3
        obtain ⟨rfl, g5⟩ := Prod.mk.inj (Option.some.inj g3)
        simp only [Bool.and_eq_true] at g2
        have k1 := vcall_of g4 g2.1
        have k2 := List.all_eq_true.1 hnv _ (Array.mem_toList_iff.2 (Array.mem_of_getElem? ho))
        rw [k1] at k2; cases k2
      · have := vix_le (rs.zip (freeList (hideOps ops))); omega
    rw [hv, List.take_length, List.drop_length] at ht
    have hfill : fillF fs (Q .normal) (E (hideOps ops).size) (G (hideOps ops).size) := by
      have := ht.fin
      rw [hlen] at this
      exact this
    have hvals := fill_vals (holds ops) fs hfs (fun _ h => h) _ _ hfill
    refine wpIn_region_any hm ?_
    have hdr : ∀ j, (Array.replicate ops.size false).getD j false = false := fun j => by
      by_cases hj : j < ops.size <;> simp [hj]
    have hjl : ∀ x ∈ holds ops, (E 0)[x.2.2.1]? = some junk := fun x hx => by
      obtain ⟨f, hf1, hf2⟩ : ∃ f ∈ fs, holdSize P ops x = some f := by
        obtain ⟨i, hi'⟩ := List.getElem?_of_mem hx
        obtain ⟨f, g1, g2⟩ := (mapM_get hfs).2 i x hi'
        exact ⟨f, List.mem_of_getElem? g1, g2⟩
      obtain ⟨_, _, n, _, _, _, rfl, _⟩ := hold_inv hf2
      rw [e1]
      exact junkF_mem fs env _ hf1 (by simpa using List.all_eq_true.1 hl _ hf1)
    refine drawF_sound (ops := ops) rfl hd h1 ht (by rw [e2, e3]) rfl (fun x hx => hvals x hx) hjl hi (fun listed β' a' w' hall hi' he' hm' hp' hst => ?_) ops.size _ (List.range ops.size) 0 β a _ (by simp) ?_
      (fun j hj _ => List.mem_range.2 (by omega)) (by simp) (by omega) ?_ (e2 ▸ hi.drew _) ?_ (hk.drew _) (e2 ▸ Post.drew hi.dom _) ⟨fun x hx hlx => (by rw [hdr] at hlx; cases hlx), fun x hx x' hx' _ hlx => (by rw [hdr] at hlx; cases hlx)⟩
    · have hlt : ∀ x ∈ holds ops, x.1 < (hideOps ops).size ∧ x.2.1 < (hideOps ops).size := fun x hx => by
        obtain ⟨o, t, y, g1, _, _, _, g5, _⟩ := (mem_holds hx).2.are
        exact ⟨by rw [hOs]; exact (Array.getElem?_eq_some_iff.1 g1).1, by rw [hOs]; exact (Array.getElem?_eq_some_iff.1 g5).1⟩
      obtain ⟨β2, H2, env2, q1, q2, q3, q4⟩ := fill_sound hi (holds ops) fs hfs (fun _ h => h) holds_pw β' _ _ hi' he' hp' hfill (fun x hx => by
        obtain ⟨b, f1, f2, f3, f4, cs, t, n, f5, _, _, f8⟩ := hst.box x hx (hall _ (hlt x hx).1)
        exact ⟨b, cs, t, f1, f2, f3, f4, f5, f8 (hall _ (hlt x hx).2)⟩)
        (fun x hx x' hx' hne => hst.apart x hx x' hx' hne (hall _ (hlt x hx).1) (hall _ (hlt x' hx').1))
      exact ⟨.normal, env2, H2, β2, rfl, q1, q2, q3, q4, hm'⟩
    · intro j o _ hS
      have hS' : (Array.replicate ops.size false).getD j false = true := hS
      rw [hdr] at hS'; cases hS'
    · intro j o _ _ _
      rw [hdr]
      simp
    · rw [envOf_none hdr, e1]; exact junkF_rel he fs
end
theorem fillF_agg {d n : Nat} {x : Operand} {fs : List (Nat × Nat × Operand)} {K : Env → AHeap → Prop} {e : Env} {H : AHeap} {us : List Value} (he : evalA e x = .agg ⟨us⟩) (hn : us.length = n) (ha : us.all isAtom = true)
    (h : fillF fs K (e.set d (.pointer (some ⟨H.length, 0, none⟩))) (H ++ [.cells true 0 us])) : fillF ((d, n, x) :: fs) K e H := by
  refine ⟨?_, ?_, ?_⟩
  · rw [he]; exact hn
  · rw [he]; exact ha
  · rw [he]; exact h
theorem fillF_nil {K : Env → AHeap → Prop} {e : Env} {H : AHeap} (h : K e H) : fillF [] K e H := h
end Go.Lq

namespace Go.Lq
open Go
attribute [go_sem] evU_op evU_guard evU_nil evK_some evK_some' evG_tt evG_ff evG_tf evG_ft evG_u evUD_op evUD_guard evUD_nil evKD_some evKD_some' evGD_tt evGD_ff evGD_tf evGD_ft evGD_u isVR Bool.and_true Bool.true_and Bool.and_false Bool.false_and isCallR ropWrites cond_true cond_false
  e_tmp e_const e_func e_global List.getD_cons_succ List.getD_cons_zero List.set_cons_succ List.set_cons_zero List.map_cons List.map_nil Option.map_none Option.map_some
  r_mov r_pick pick_t pick_f r_arith a_add a_sub a_mul a_quo a_rem r_cmp c_lss c_leq c_gtr c_geq c_eql c_neq r_neg neg_i r_not not_b r_conv conv_i r_extract extract_0 extract_1 extract_2 r_most most_max most_min
  r_field field_0 field_1 field_2 r_fieldN fieldN_agg r_len len_sl r_idx r_load r_loadN r_faddr faddr_ptr r_new newR r_box r_store r_buildSlice r_build r_iface r_mkFunc r_append r_copy r_eqAgg r_slice
  put_some put_none decide_ne_self decide_eq_self w64_id ite_id fillA_int fillA_nil mkSliceL_some buildL_some Int.toNat_natCast Bool.not_true Bool.not_false decide_true decide_false
  List.all_cons List.all_nil isAtom_int isAtom_bool isAtom_slice constOk_int constOk_bool constOk_nil Bool.and_self
theorem junkF_cons {d n : Nat} {x : Operand} {fs : List (Nat × Nat × Operand)} {e : Env} : junkF ((d, n, x) :: fs) e = junkF fs (e.set d junk) := rfl
theorem junkF_nil {e : Env} : junkF [] e = e := rfl
attribute [go_sem] junkF_cons junkF_nil
abbrev q1 := @awp_seq
abbrev q2 := @awp_block
abbrev q3 := @awp_skip
abbrev q4 := @awp_ret
abbrev q6 := @awp_ops
abbrev q7 := @awp_draw
abbrev qh := @awp_drawF
abbrev yb := @awp_draw
abbrev yc := @awp_drawF
inductive Nx : Prop → Prop → Prop
  | a1 {P : Program} {ar : Option Nat} {x y : RCode} {Q : AExit → Env → AHeap → Prop} {e : Env} {H : AHeap} : Nx (AWP P ar (.seq x y) Q e H) (AWP P ar x (Seq (AWP P ar y Q) Q) e H)
  | a2 {P : Program} {ar : Option Nat} {id : Nat} {x : RCode} {Q : AExit → Env → AHeap → Prop} {e : Env} {H : AHeap} : Nx (AWP P ar (.block id x) Q e H) (AWP P ar x (InBlock id Q) e H)
  | a3 {P : Program} {ar : Option Nat} {Q : AExit → Env → AHeap → Prop} {e : Env} {H : AHeap} : Nx (AWP P ar .skip Q e H) (Q .normal e H)
  | a4 {P : Program} {ar : Option Nat} {Q : AExit → Env → AHeap → Prop} {e : Env} {H : AHeap} : Nx (AWP P ar .ret Q e H) (Q .ret e H)
  | a5 {P : Program} {ar : Option Nat} {id : Nat} {Q : AExit → Env → AHeap → Prop} {e : Env} {H : AHeap} : Nx (AWP P ar (.exit id) Q e H) (Q (.exit id) e H)
  | a6 {P : Program} {ar : Option Nat} {l : List ROper} {Q : AExit → Env → AHeap → Prop} {e : Env} {H : AHeap} : Nx (AWP P ar (.ops l) Q e H) (AOps P l (Q .normal) e H)
  | a8 {K : Env → AHeap → Prop} {Q : AExit → Env → AHeap → Prop} {e : Env} {H : AHeap} : Nx (Seq K Q .normal e H) (K e H)
  | a9 {K : Env → AHeap → Prop} {Q : AExit → Env → AHeap → Prop} {e : Env} {H : AHeap} : Nx (Seq K Q .ret e H) (Q .ret e H)
  | aa {K : Env → AHeap → Prop} {Q : AExit → Env → AHeap → Prop} {id : Nat} {e : Env} {H : AHeap} : Nx (Seq K Q (.exit id) e H) (Q (.exit id) e H)
  | ab {Q : AExit → Env → AHeap → Prop} {id : Nat} {e : Env} {H : AHeap} : Nx (InBlock id Q (.exit id) e H) (Q .normal e H)
  | ac {Q : AExit → Env → AHeap → Prop} {id : Nat} {e : Env} {H : AHeap} : Nx (InBlock id Q .normal e H) (Q .normal e H)
  | ad {Q : AExit → Env → AHeap → Prop} {id : Nat} {e : Env} {H : AHeap} : Nx (InBlock id Q .ret e H) (Q .ret e H)
  | ae {Q : AExit → Env → AHeap → Prop} {id id' : Nat} {e : Env} {H : AHeap} (hn : id' ≠ id) : Nx (InBlock id Q (.exit id') e H) (Q (.exit id') e H)
  | af {P : Program} {K : Env → AHeap → Prop} {e : Env} {H : AHeap} : Nx (AOps P [] K e H) (K e H)
  | ag {P : Program} {K : Env → AHeap → Prop} {B : AHeap} {e : Env} {H : AHeap} : Nx (ADraw P [] B K e H) (K e H)
  | ai {d n : Nat} {x : Operand} {fs : List (Nat × Nat × Operand)} {K : Env → AHeap → Prop} {e : Env} {H : AHeap} {us : List Value} (he : evalA e x = .agg ⟨us⟩) (hn : us.length = n) (ha : us.all isAtom = true) :
      Nx (fillF ((d, n, x) :: fs) K e H) (fillF fs K (e.set d (.pointer (some ⟨H.length, 0, none⟩))) (H ++ [.cells true 0 us]))
  | aj {K : Env → AHeap → Prop} {e : Env} {H : AHeap} : Nx (fillF [] K e H) (K e H)
theorem ya {P Q : Prop} (h : Nx P Q) (k : Q) : P := by
  cases h with
  | a1 => exact awp_seq k
  | a2 => exact awp_block k
  | a3 => exact awp_skip k
  | a4 => exact awp_ret k
  | a5 => exact awp_exit k
  | a6 => exact awp_ops k
  | a8 => exact seq_n k
  | a9 => exact seq_r k
  | aa => exact seq_x k
  | ab => exact blk_x k
  | ac => exact blk_n k
  | ad => exact blk_r k
  | ae hn => exact blk_y hn k
  | af => exact aops_nil k
  | ag => exact adraw_nil k
  | ai he hn ha => exact fillF_agg he hn ha k
  | aj => exact fillF_nil k
def evS : List ROper → Option (Env × AHeap) → Rest
  | [], _ => none
  | ⟨d, op, none⟩ :: l, s => bif isCallR op then none else evU (⟨d, op, none⟩ :: l) s
  | ⟨d, op, some g⟩ :: l, s => evU (⟨d, op, some g⟩ :: l) s
theorem evS_nil (s) : evS [] s = none := rfl
theorem evS_op (d : Option Nat) (op : ROp) (l : List ROper) (s) : evS (⟨d, op, none⟩ :: l) s = bif isCallR op then none else evU (⟨d, op, none⟩ :: l) s := rfl
theorem evS_guard (d : Option Nat) (op : ROp) (g : Nat × Bool) (l : List ROper) (s) : evS (⟨d, op, some g⟩ :: l) s = evU (⟨d, op, some g⟩ :: l) s := rfl
theorem evS_le {l : List ROper} {s} {r} (h : evS l s = some r) : evU l s = some r := by
  match l with
  | [] => cases h
  | ⟨d, op, none⟩ :: l =>
    rw [evS_op] at h
    cases hc : isCallR op with
    | true => rw [hc] at h; cases h
    | false => rw [hc] at h; exact h
  | ⟨d, op, some g⟩ :: l => exact h
def evSD : List (ROper × Bool) → Option (AHeap × Env × AHeap) → RestD
  | [], _ => none
  | (⟨d, op, none⟩, fr) :: l, s => bif isCallR op then none else evUD ((⟨d, op, none⟩, fr) :: l) s
  | (⟨d, op, some g⟩, fr) :: l, s => bif isVR op && fr then none else evUD ((⟨d, op, some g⟩, fr) :: l) s
theorem evSD_nil (s) : evSD [] s = none := rfl
theorem evSD_op (d : Option Nat) (op : ROp) (fr : Bool) (l : List (ROper × Bool)) (s) : evSD ((⟨d, op, none⟩, fr) :: l) s = bif isCallR op then none else evUD ((⟨d, op, none⟩, fr) :: l) s := rfl
theorem evSD_guard (d : Option Nat) (op : ROp) (fr : Bool) (g : Nat × Bool) (l : List (ROper × Bool)) (s) : evSD ((⟨d, op, some g⟩, fr) :: l) s = bif isVR op && fr then none else evUD ((⟨d, op, some g⟩, fr) :: l) s := rfl
theorem evSD_le {l : List (ROper × Bool)} {s} {r} (h : evSD l s = some r) : evUD l s = some r := by
  match l with
  | [] => cases h
  | (⟨d, op, none⟩, fr) :: l =>
    rw [evSD_op] at h
    cases hc : isCallR op with
    | true => rw [hc] at h; cases h
    | false => rw [hc] at h; exact h
  | (⟨d, op, some g⟩, fr) :: l =>
    rw [evSD_guard] at h
    cases hc : isVR op && fr with
    | true => rw [hc] at h; cases h
    | false => rw [hc] at h; exact h
theorem yd {P : Program} {K : Env → AHeap → Prop} {e e' : Env} {H H' : AHeap} {l rest : List ROper} (h : evS l (some (e, H)) = some (rest, e', H')) (k : AOps P rest K e' H') : AOps P l K e H := aops_until (evS_le h) k
theorem ye {P : Program} {K : Env → AHeap → Prop} {e e' : Env} {B B' H H' : AHeap} {l rest : List (ROper × Bool)} (h : evSD l (some (B, e, H)) = some (rest, B', e', H')) (k : ADraw P rest B' K e' H') : ADraw P l B K e H := adraw_until (evSD_le h) k
attribute [go_sem] evS_nil evS_op evS_guard evSD_nil evSD_op evSD_guard
theorem yn {α : Type} {p : α → Bool} : ([] : List α).all p = true := List.all_nil
theorem ym {α β : Type} {f : α → β} {l : List α} : (l.map f).length = l.length := List.length_map ..
theorem yo (H : AHeap) : Ext H H := Ext.refl H
theorem yp {H H' : AHeap} (h : Ext H H') (N : AHeap) : Ext H (H' ++ N) := h.app N
theorem yq {α : Type} {a : α} {l : List α} : (a :: l).length = l.length + 1 := List.length_cons ..
theorem yr {α : Type} : ([] : List α).length = 0 := List.length_nil
theorem yt {α : Type} {a : α} {l m : List α} : a :: l ++ m = a :: (l ++ m) := List.cons_append ..
theorem yu {α : Type} (l : List α) : [] ++ l = l := List.nil_append l
end Go.Lq

namespace Go.Lq
open Go

section
variable {H N : AHeap} {o : Bool} {e k id : Nat} {vs us : List Value}
theorem load_new : loadR (.pointer (some ⟨H.length, k, none⟩)) (H ++ [.cells o e vs]) = (vs[k]?).map fun v => (v, H ++ [.cells o e vs]) := by
  simp only [loadR, cellAt]
  rw [List.getElem?_append_right (Nat.le_refl _), Nat.sub_self]
  rfl
theorem load_peel (h : id < H.length) : loadR (.pointer (some ⟨id, k, none⟩)) (H ++ N) = (loadR (.pointer (some ⟨id, k, none⟩)) H).map fun r => (r.1, H ++ N) := by
  simp only [loadR, cellAt]
  rw [List.getElem?_append_left h]
  rw [Option.map_map]; rfl
theorem load_at (h : H[id]? = some (.cells o e vs)) : loadR (.pointer (some ⟨id, k, none⟩)) H = (vs[k]?).map fun v => (v, H) := by
  simp only [loadR, cellAt, h]
theorem loadN_new {n : Nat} (h : k + n ≤ vs.length) : loadNR n (.pointer (some ⟨H.length, k, none⟩)) (H ++ [.cells o e vs]) = some (.agg ⟨(vs.drop k).take n⟩, H ++ [.cells o e vs]) := by
  simp only [loadNR, cellsAt]
  rw [List.getElem?_append_right (Nat.le_refl _), Nat.sub_self]
  simp only [List.getElem?_cons_zero, if_pos h, Option.map_some]
theorem loadN_peel {n : Nat} (h : id < H.length) : loadNR n (.pointer (some ⟨id, k, none⟩)) (H ++ N) = (loadNR n (.pointer (some ⟨id, k, none⟩)) H).map fun r => (r.1, H ++ N) := by
  simp only [loadNR, cellsAt]
  rw [List.getElem?_append_left h]
  rw [Option.map_map]; rfl
theorem loadN_at {n : Nat} (h : H[id]? = some (.cells o e vs)) (hk : k + n ≤ vs.length) : loadNR n (.pointer (some ⟨id, k, none⟩)) H = some (.agg ⟨(vs.drop k).take n⟩, H) := by
  simp only [loadNR, cellsAt, h, if_pos hk, Option.map_some]
theorem store_new (ha : us.all isAtom = true) (hl : us.length = vs.length) : storeR us.length (.pointer (some ⟨H.length, 0, none⟩)) (.agg ⟨us⟩) (H ++ [.cells true e vs]) = some (undef, H ++ [.cells true e us]) := by
  have e1 : (Value.agg ⟨us⟩).cells = ⟨us⟩ := rfl
  simp only [storeR, e1, List.size_toArray, if_true, storeAt]
  rw [List.getElem?_append_right (Nat.le_refl _), Nat.sub_self]
  simp only [List.getElem?_cons_zero, ha, and_true, Nat.zero_add]
  rw [if_pos (by omega)]
  simp only [Option.map_some, setCells, List.take_zero, List.nil_append, Nat.zero_add]
  rw [List.drop_eq_nil_of_le (by omega), List.append_nil, List.set_append_right _ _ (Nat.le_refl _), Nat.sub_self]
  rfl
theorem store_new2 {a b : Int} {c d : Value} : storeR 2 (.pointer (some ⟨H.length, 0, none⟩)) (.agg ⟨[.int .i64 a, .int .i64 b]⟩) (H ++ [.cells true e [c, d]]) =
    some (undef, H ++ [.cells true e [.int .i64 a, .int .i64 b]]) := store_new (us := [.int .i64 a, .int .i64 b]) rfl rfl
theorem box_agg (ha : us.all isAtom = true) : boxR (.agg ⟨us⟩) H = some (.pointer (some ⟨H.length, 0, none⟩), H ++ [.cells true 0 us]) := by
  have e1 : (Value.agg ⟨us⟩).cells.toList = us := rfl
  simp only [boxR, e1, ha, if_true]
theorem box_2 {a b : Int} : boxR (.agg ⟨[.int .i64 a, .int .i64 b]⟩) H = some (.pointer (some ⟨H.length, 0, none⟩), H ++ [.cells true 0 [.int .i64 a, .int .i64 b]]) := box_agg rfl
theorem at_new : (H ++ [.cells o e vs])[H.length]? = some (.cells o e vs) := by simp
theorem at_app {c : AObj} (h : H[id]? = some c) : (H ++ N)[id]? = some c := by
  rw [List.getElem?_append_left (List.getElem?_eq_some_iff.1 h).1]; exact h
end
attribute [go_sem] load_new load_peel loadN_new loadN_peel store_new2 box_2 box_agg List.getElem?_cons_zero List.getElem?_cons_succ List.drop_zero List.drop_succ_cons List.take_succ_cons List.take_zero List.take_nil Nat.zero_add

def flatP (l : List (Int × Int)) : List Value := l.flatMap fun p => [.int .i64 p.1, .int .i64 p.2]
theorem flatP_len (l : List (Int × Int)) : (flatP l).length = l.length * 2 := by
  induction l with
  | nil => rfl
  | cons p l ih => simp only [flatP, List.flatMap_cons, List.length_append, List.length_cons, List.length_nil] at *; omega
theorem flatP_drop : ∀ (l : List (Int × Int)) (i : Nat), (flatP l).drop (i * 2) = flatP (l.drop i)
  | l, 0 => by simp
  | [], i + 1 => by simp [flatP]
  | p :: l, i + 1 => by
    have := flatP_drop l i
    rw [Nat.add_mul, Nat.one_mul]
    simpa [flatP] using this
theorem flatP_take2 {l : List (Int × Int)} {i : Nat} (h : i < l.length) : ((flatP l).drop (i * 2)).take 2 = [.int .i64 (l.getD i (0, 0)).1, .int .i64 (l.getD i (0, 0)).2] := by
  rw [flatP_drop, drop_getD (d := (0, 0)) h]; rfl
theorem flatP_get0 {l : List (Int × Int)} {i : Nat} (h : i < l.length) : (flatP l).getD (i * 2) undef = .int .i64 (l.getD i (0, 0)).1 := by
  have h2 := flatP_take2 h
  have : ((flatP l).drop (i * 2))[0]? = some (.int .i64 (l.getD i (0, 0)).1) := by
    have e : (((flatP l).drop (i * 2)).take 2)[0]? = ((flatP l).drop (i * 2))[0]? := by rw [List.getElem?_take, if_pos (by omega)]
    rw [← e, h2]; rfl
  rw [List.getElem?_drop] at this
  rw [List.getD_eq_getElem?_getD, show i * 2 = i * 2 + 0 from rfl, this]; rfl
theorem flatP_get1 {l : List (Int × Int)} {i : Nat} (h : i < l.length) : (flatP l).getD (i * 2 + 1) undef = .int .i64 (l.getD i (0, 0)).2 := by
  have h2 := flatP_take2 h
  have : ((flatP l).drop (i * 2))[1]? = some (.int .i64 (l.getD i (0, 0)).2) := by
    have e : (((flatP l).drop (i * 2)).take 2)[1]? = ((flatP l).drop (i * 2))[1]? := by rw [List.getElem?_take, if_pos (by omega)]
    rw [← e, h2]; rfl
  rw [List.getElem?_drop] at this
  rw [List.getD_eq_getElem?_getD, this]; rfl
def Pairs (H : AHeap) (l : List (Int × Int)) (v : Value) : Prop := Sl H 2 l.length (flatP l) v
section
variable {H H' : AHeap} {l : List (Int × Int)} {v : Value}
theorem Pairs.ext (h : Pairs H l v) (hx : Ext H H') : Pairs H' l v := Sl.ext h hx
theorem Pairs.len (h : Pairs H l v) {H' : AHeap} : lenR v H' = some (.int .i64 l.length, H') := Sl.len h
theorem Pairs.idx (h : Pairs H l v) {i : Int} {k : IntKind} {H' : AHeap} (h0 : 0 ≤ i) (h1 : i < l.length) : idxR 2 v (.int k i) H' = some (addrOf v (i.toNat * 2), H') := Sl.idx h h0 h1
theorem Pairs.load (h : Pairs H l v) (hx : Ext H H') {i : Nat} (hi : i < l.length) :
    loadNR 2 (addrOf v (i * 2)) H' = some (.agg ⟨[.int .i64 (l.getD i (0, 0)).1, .int .i64 (l.getD i (0, 0)).2]⟩, H') ∧
    faddrR 0 (addrOf v (i * 2)) H' = some (addrOf v (i * 2), H') ∧ faddrR 1 (addrOf v (i * 2)) H' = some (addrOf v (i * 2 + 1), H') ∧
    loadR (addrOf v (i * 2)) H' = some (.int .i64 (l.getD i (0, 0)).1, H') ∧ loadR (addrOf v (i * 2 + 1)) H' = some (.int .i64 (l.getD i (0, 0)).2, H') := by
  refine ⟨?_, Sl.faddr h (by omega), Sl.faddr h (by omega), ?_, ?_⟩
  · rw [Sl.loadN h hx (by omega) (by omega), flatP_take2 hi]
  · rw [Sl.load h hx (by omega), flatP_get0 hi]
  · rw [Sl.load h hx (by omega), flatP_get1 hi]
end

theorem eq_pair {neg : Bool} {a b c d : Int} {H : AHeap} : eqAggR neg [(0, false), (1, false)] (.agg ⟨[.int .i64 a, .int .i64 b]⟩) (.agg ⟨[.int .i64 c, .int .i64 d]⟩) H = some (.bool (neg != decide ((a, b) = (c, d))), H) := by
  have : decide ((a, b) = (c, d)) = ((a == c) && ((b == d) && true)) := by
    by_cases h1 : a = c <;> by_cases h2 : b = d <;> simp [h1, h2]
  rw [this]
  simp [eqAggR, eqLeaves]
attribute [go_sem] eq_pair

/-! ### Slices written -/

def idOf (v : Value) : Nat := match v with | .slice (some a) _ _ => a.block | _ => 0
def setH (H : AHeap) (v : Value) (l : List Int) : AHeap := match v with | .slice (some a) _ _ => H.set a.block (.cells true 1 (l.map (.int .i64))) | _ => H

theorem OwnI.store {H0 H : AHeap} {l : List Int} {v : Value} (h : OwnI H0 H l v) {k : Nat} (hk : k < l.length) (x : Int) : storeR 1 (addrOf v k) (.int .i64 x) H = some (undef, setH H v (l.set k x)) := by
  obtain ⟨hl, h⟩ := h
  rcases h with ⟨rfl, h0⟩ | ⟨id, rfl, h1, h2, ho⟩
  · omega
  · have e1 : (Value.int .i64 x).cells.toList = [.int .i64 x] := rfl
    have e2 : (Value.int .i64 x).cells.size = 1 := rfl
    have e3 : ([Value.int .i64 x]).all isAtom = true := rfl
    simp only [addrOf, Nat.zero_add, storeR, e1, e2, if_true, storeAt, ho, e3, and_true, List.length_map]
    rw [if_pos (by simp; omega), setCells_one _ _ _ (by simpa using hk)]
    simp only [Option.map_some, setH, List.map_set]
theorem OwnI.id_lt {H0 H : AHeap} {l : List Int} {v : Value} (h : OwnI H0 H l v) (hl : 0 < l.length) : H0.length ≤ idOf v ∧ idOf v < H.length := by
  rcases h.2 with ⟨rfl, h0⟩ | ⟨id, rfl, h1, h2, ho⟩
  · omega
  · exact ⟨h1, (List.getElem?_eq_some_iff.1 ho).1⟩
end Go.Lq
namespace Go.Lq
open Go
theorem store_peel {H N : AHeap} {n id k : Nat} {x : Value} (h : id < H.length) : storeR n (.pointer (some ⟨id, k, none⟩)) x (H ++ N) = (storeR n (.pointer (some ⟨id, k, none⟩)) x H).map fun r => (r.1, r.2 ++ N) := by
  have e : ∀ vs, storeAt (H ++ N) id k vs = (storeAt H id k vs).map (· ++ N) := fun vs => by
    unfold storeAt
    rw [List.getElem?_append_left h]
    cases H[id]? with
    | none => rfl
    | some o =>
      cases o with
      | cells b esz xs =>
        cases b with
        | false => rfl
        | true =>
          simp only
          split
          · simp only [Option.map_some, List.set_append_left _ _ h]
          · rfl
      | loop r => rfl
      | dead => rfl
  simp only [storeR]
  split
  · rw [e, Option.map_map, Option.map_map]; rfl
  · rfl
theorem fin_l2 {c : RCode} {n a b m : Nat} {R : Value → AHeap → Prop} {e : Env} {H : AHeap} {u : Value} (h1 : loadNR m (e.getD a undef) H = some (u, H)) (h : R (.tuple #[u, e.getD b undef]) H) :
    Fin ⟨c, n, [.loadN m a, .tmp b]⟩ R .ret e H := by
  refine ⟨.inr rfl, _, ?_, h⟩
  unfold loadNR at h1
  split at h1
  · rename_i id off hp
    simp only [Option.map_eq_some_iff, Prod.mk.injEq, and_true] at h1
    obtain ⟨us, h2, rfl⟩ := h1
    simp only [resultA, List.mapM_cons, resA, hp, h2, Option.map_some, List.mapM_nil]
    rfl
  · cases h1
theorem fillA_pair {x y : Value} {a b : Int} : fillA [x, y] [(0, 2, .agg ⟨[.int .i64 a, .int .i64 b]⟩)] = some [.int .i64 a, .int .i64 b] := rfl
attribute [go_sem] store_peel fillA_pair

def OwnP (H0 H : AHeap) (l : List (Int × Int)) (v : Value) : Prop := Own H0 H 2 l.length (flatP l) v
theorem OwnP.nil (H0 H : AHeap) : OwnP H0 H [] (.slice none 0 0) := Own.nil H0 H 2
theorem OwnP.app {H0 H : AHeap} {l : List (Int × Int)} {v : Value} (h : OwnP H0 H l v) (N : AHeap) : OwnP H0 (H ++ N) l v := Own.app h N
def pushPH (H : AHeap) (v : Value) (l : List (Int × Int)) (x : Int × Int) : AHeap := appH (H ++ [.cells true 2 [.int .i64 x.1, .int .i64 x.2]]) v 2 (flatP (l ++ [x]))
theorem OwnP.push {H0 H : AHeap} {l : List (Int × Int)} {v : Value} (h : OwnP H0 H l v) (hb : l.length < 1000000000) (a b : Int) :
    appendA 2 16 (H ++ [.cells true 2 [.int .i64 a, .int .i64 b]]) v (.slice (some ⟨H.length, 0, none⟩) 1 1) = some (pushV H l.length, pushPH H v l (a, b)) := by
  have := Own.append (bytes := 16) (h.app [.cells true 2 [.int .i64 a, .int .i64 b]]) (Sl.last (H := H) (sz := 2) (n := 1) (vs := [.int .i64 a, .int .i64 b]) rfl 1) (by omega) rfl (roomOk_of (by omega) (by omega))
  rw [this]
  simp [pushV, pushPH, flatP]
theorem OwnP.pushed {H0 H : AHeap} {l : List (Int × Int)} {v : Value} (h : OwnP H0 H l v) (hx : Ext H0 H) (x : Int × Int) : OwnP H0 (pushPH H v l x) (l ++ [x]) (pushV H l.length) := by
  have := Own.appended (h.app [.cells true 2 [.int .i64 x.1, .int .i64 x.2]]) (m := 1) (cs := [.int .i64 x.1, .int .i64 x.2]) rfl (by omega) (by have := hx.len; simp; omega)
  unfold OwnP
  simpa [pushV, pushPH, flatP] using this
theorem OwnP.ext {H0 H : AHeap} {l : List (Int × Int)} {v : Value} (h : OwnP H0 H l v) (hx : Ext H0 H) (x : Int × Int) : Ext H0 (pushPH H v l x) :=
  Own.ext (h.app [.cells true 2 [.int .i64 x.1, .int .i64 x.2]]) (hx.app _)
theorem Pairs.ret {H : AHeap} {l : List (Int × Int)} : Pairs (H ++ retN 2 l.length (flatP l)) l (retV H l.length) := Sl.ret (flatP_len l)
theorem Pairs.last {H : AHeap} {l : List (Int × Int)} (c : Nat) : Pairs (H ++ [.cells true 2 (flatP l)]) l (.slice (some ⟨H.length, 0, none⟩) l.length c) := Sl.last (flatP_len l) c

def PairsRet (H : AHeap) (out : List (Int × Int)) (v : Value) (H1 : AHeap) : Prop := v = retV H out.length ∧ H1 = H ++ retN 2 out.length (flatP out)
def PairsRes (H : AHeap) (out : List (Int × Int)) (e : Int) (v : Value) (H1 : AHeap) : Prop := v = .tuple #[retV H out.length, .int .i64 e] ∧ H1 = H ++ retN 2 out.length (flatP out)
section
variable {P : Program} {g : FuncId} {args : List Value} {H : AHeap} {out : List (Int × Int)} {e : Int}
theorem PairsRes.use {v : Value} {H1 : AHeap} (h : PairsRes H out e v H1) : ∃ s, v = .tuple #[s, .int .i64 e] ∧ Pairs H1 out s ∧ Ext H H1 := by
  obtain ⟨rfl, rfl⟩ := h
  exact ⟨_, rfl, Pairs.ret, _, rfl⟩
theorem PairsRet.use {v : Value} {H1 : AHeap} (h : PairsRet H out v H1) : Pairs H1 out v ∧ Ext H H1 := by
  obtain ⟨rfl, rfl⟩ := h
  exact ⟨Pairs.ret, _, rfl⟩
end
end Go.Lq
namespace Go.Lq
open Go
theorem Sl.of {H : AHeap} {o : Bool} {e sz n id c : Nat} {vs : List Value} (h : H[id]? = some (.cells o e vs)) (hl : vs.length = n * sz) : Sl H sz n vs (.slice (some ⟨id, 0, none⟩) n c) := by
  refine ⟨hl, .inr ⟨id, 0, c, rfl, fun _ => ?_⟩⟩
  unfold cellsAt
  rw [h]
  simp only
  rw [if_pos (by omega), List.drop_zero, List.take_of_length_le (by omega)]
end Go.Lq

namespace Go.Lq
open Go

section
variable {P : Program} {H : AHeap} {t e : TypeId} {v : Value}

end
end Go.Lq
namespace Go.Lq
open Go
def idxAR (len size : Nat) (x i : Value) (H : AHeap) : Option (Value × AHeap) :=
  match x, i with
  | .pointer (some ⟨id, off, none⟩), .int _ n => if 0 ≤ n ∧ n < len then some (.pointer (some ⟨id, off + n.toNat * size, none⟩), H) else none
  | _, _ => none
theorem r_idxA {ρ : Operand → Value} {H : AHeap} {len size : Nat} {x y : Operand} : ropRun (.idxAddrA len size x y) ρ H = idxAR len size (ρ x) (ρ y) H := rfl
theorem idxA_at {len size id off : Nat} {n : Nat} {k : IntKind} {H : AHeap} (h : n < len) : idxAR len size (.pointer (some ⟨id, off, none⟩)) (.int k (n : Int)) H = some (.pointer (some ⟨id, off + n * size, none⟩), H) := by
  simp only [idxAR]
  rw [if_pos ⟨by omega, by omega⟩]
  simp
theorem box_3 {H : AHeap} {a b c : Int} : boxR (.agg ⟨[.int .i64 a, .int .i64 b, .int .i64 c]⟩) H = some (.pointer (some ⟨H.length, 0, none⟩), H ++ [.cells true 0 [.int .i64 a, .int .i64 b, .int .i64 c]]) := box_agg rfl
end Go.Lq

namespace Go.Lq
open Go

def Lists (H : AHeap) (ll : List (List Int)) (vs : List Value) (v : Value) : Prop := Sl H 1 ll.length vs v ∧ ∀ i, i < ll.length → Ints H (ll.getD i []) (vs.getD i undef)

section
variable {H H' H0 : AHeap} {ll : List (List Int)} {vs : List Value} {v : Value}
theorem Lists.ext (h : Lists H ll vs v) (hx : Ext H H') : Lists H' ll vs v := ⟨h.1.ext hx, fun i hi => (h.2 i hi).ext hx⟩
theorem Lists.len (h : Lists H ll vs v) {H' : AHeap} : lenR v H' = some (.int .i64 ll.length, H') := Sl.len h.1
theorem Lists.idx (h : Lists H ll vs v) {i : Int} {k : IntKind} {H' : AHeap} (h0 : 0 ≤ i) (h1 : i < ll.length) : idxR 1 v (.int k i) H' = some (addrOf v i.toNat, H') := by
  have := Sl.idx h.1 (k := k) (H' := H') h0 h1
  simpa using this
theorem Lists.load (h : Lists H ll vs v) (hx : Ext H H') {k : Nat} (hk : k < ll.length) : loadR (addrOf v k) H' = some (vs.getD k undef, H') := Sl.load h.1 hx (by omega)
theorem Lists.row (h : Lists H ll vs v) {k : Nat} (hk : k < ll.length) : Ints H (ll.getD k []) (vs.getD k undef) := h.2 k hk

def OwnL (H0 H : AHeap) (ll : List (List Int)) (v : Value) : Prop := ∃ vs, Own H0 H 1 ll.length vs v ∧
  (∀ i, i < ll.length → ∃ id, vs.getD i undef = .slice (some ⟨id, 0, none⟩) (ll.getD i []).length (ll.getD i []).length ∧ idOf v ≠ id ∧ H0.length ≤ id ∧ H[id]? = some (.cells true 1 ((ll.getD i []).map (.int .i64)))) ∧
  ∀ i j, i < j → j < ll.length → idOf (vs.getD i undef) ≠ idOf (vs.getD j undef)
theorem OwnL.nil (H0 H : AHeap) : OwnL H0 H [] (.slice none 0 0) := ⟨[], Own.nil H0 H 1, fun i hi => absurd hi (by simp), fun i j _ hj => absurd hj (by simp)⟩
theorem OwnL.push (h : OwnL H0 H ll v) (hx : Ext H0 H) (hb : ll.length < 1000000000) (l : List Int) :
    ∃ v' H', appendA 1 24 (H ++ [.cells true 1 (l.map (.int .i64))] ++ [.cells true 1 [.slice (some ⟨H.length, 0, none⟩) l.length l.length]]) v (.slice (some ⟨(H ++ [AObj.cells true 1 (l.map (.int .i64))]).length, 0, none⟩) 1 1) = some (v', H') ∧
      OwnL H0 H' (ll ++ [l]) v' ∧ Ext H0 H' := by
  obtain ⟨vs, ho, hr, hd⟩ := h
  generalize hG : H ++ [AObj.cells true 1 (l.map (.int .i64))] ++ [.cells true 1 [.slice (some ⟨H.length, 0, none⟩) l.length l.length]] = G
  have hoG : Own H0 G 1 ll.length vs v := by rw [← hG]; exact (ho.app _).app _
  have hxG : Ext H0 G := by rw [← hG]; exact (hx.app _).app _
  have hxl := hx.len
  have hGl : G.length = H.length + 2 := by rw [← hG]; simp
  have hw : Sl G 1 1 [.slice (some ⟨H.length, 0, none⟩) l.length l.length] (.slice (some ⟨(H ++ [AObj.cells true 1 (l.map (.int .i64))]).length, 0, none⟩) 1 1) := by rw [← hG]; exact Sl.last rfl 1
  have happ := Own.append (bytes := 24) hoG hw (by omega) rfl (roomOk_of (by omega) (by omega))
  refine ⟨_, _, happ, ⟨vs ++ [.slice (some ⟨H.length, 0, none⟩) l.length l.length], ?_, fun i hi => ?_, fun i j hij hj => ?_⟩, Own.ext hoG hxG⟩
  · have := Own.appended hoG (m := 1) (cs := [.slice (some ⟨H.length, 0, none⟩) l.length l.length]) rfl (by omega) (by omega)
    simpa using this
  · have hvl : vs.length = ll.length := by have := ho.1; omega
    have keep : ∀ (id : Nat) (c : AObj), (v = .slice none 0 0 ∨ idOf v ≠ id) → G[id]? = some c → (appH G v 1 (vs ++ [.slice (some ⟨H.length, 0, none⟩) l.length l.length]))[id]? = some c := fun id c hne hc => by
      unfold appH
      rcases hoG.2 with ⟨rfl, _⟩ | ⟨id0, rfl, _, _, _⟩
      · exact at_app hc
      · refine at_app ?_
        rw [List.getElem?_set_ne (by simpa [idOf] using hne)]; exact hc
    by_cases hil : i < ll.length
    · obtain ⟨id, e, hne, hge, hc⟩ := hr i hil
      have hlt : id < H.length := (List.getElem?_eq_some_iff.1 hc).1
      refine ⟨id, ?_, ?_, hge, ?_⟩
      · rw [getD_append_lt (by omega), getD_append_lt hil]; exact e
      · show G.length ≠ id
        omega
      · rw [getD_append_lt hil]
        refine keep id _ (.inr hne) ?_
        rw [← hG, List.append_assoc]; exact at_app hc
    · have hi' : i = ll.length := by simp at hi; omega
      subst hi'
      refine ⟨H.length, ?_, ?_, hxl, ?_⟩
      · rw [getD_append_last, ← hvl, getD_append_last]
      · show G.length ≠ H.length
        omega
      · rw [getD_append_last]
        refine keep H.length _ ?_ ?_
        · rcases ho.2 with ⟨rfl, h0⟩ | ⟨id0, rfl, _, _, hc⟩
          · exact .inl rfl
          · have := (List.getElem?_eq_some_iff.1 hc).1
            refine .inr ?_
            show id0 ≠ H.length
            omega
        · rw [← hG]; exact at_app at_new
  · have hvl : vs.length = ll.length := by have := ho.1; omega
    have hj' : j ≤ ll.length := by simp at hj; omega
    have hil : i < ll.length := by omega
    rw [getD_append_lt (by omega)]
    by_cases hjl : j < ll.length
    · rw [getD_append_lt (by omega)]
      exact hd i j hij hjl
    · have : j = vs.length := by omega
      subst this
      rw [getD_append_last]
      obtain ⟨id, e, hne, hge, hc⟩ := hr i hil
      have hlt : id < H.length := (List.getElem?_eq_some_iff.1 hc).1
      rw [e]
      show id ≠ H.length
      omega

theorem OwnL.set (h : OwnL H0 H ll v) {k : Nat} (hk : k < H0.length) (c : AObj) : OwnL H0 (H.set k c) ll v := by
  obtain ⟨vs, ho, hr, hd⟩ := h
  refine ⟨vs, ⟨ho.1, ho.2.imp_right fun ⟨id, e, h1, h2, hc⟩ => ⟨id, e, h1, h2, ?_⟩⟩, fun i hi => ?_, hd⟩
  · obtain ⟨id, e, hne, hge, hc⟩ := hr i hi
    refine ⟨id, e, hne, hge, ?_⟩
    rw [List.getElem?_set_ne (by omega)]; exact hc
  · rw [List.getElem?_set_ne (by omega)]; exact hc

theorem RepA.of_slice {P : Program} {t e : TypeId} (ht : P.underlying t = some (.slice e)) (h : Rep P H t [v]) : RepA P H t v := by
  unfold RepA
  split
  · rename_i h1; rw [ht] at h1; cases h1
  · rename_i h1; rw [ht] at h1; cases h1
  · exact h

theorem OwnL.weaken {G : AHeap} (h : OwnL G H ll v) (hg : H0.length ≤ G.length) : OwnL H0 H ll v := by
  obtain ⟨vs, ho, hr, hd⟩ := h
  refine ⟨vs, ⟨ho.1, ho.2.imp_right fun ⟨id, e, h1, h2⟩ => ⟨id, e, by omega, h2⟩⟩, fun i hi => ?_, hd⟩
  obtain ⟨id, e, hne, hge, hc⟩ := hr i hi
  exact ⟨id, e, hne, by omega, hc⟩
theorem OwnL.atom (h : OwnL H0 H ll v) : isAtom v = true := by
  obtain ⟨vs, ho, _⟩ := h
  rcases ho.2 with ⟨rfl, _⟩ | ⟨id, rfl, _⟩ <;> rfl
theorem fin_l1 {c : RCode} {n a m : Nat} {R : Value → AHeap → Prop} {e : Env} {H : AHeap} {u : Value} (h1 : loadNR m (e.getD a undef) H = some (u, H)) (h : R u H) :
    Fin ⟨c, n, [.loadN m a]⟩ R .ret e H := by
  refine ⟨.inr rfl, _, ?_, h⟩
  unfold loadNR at h1
  split at h1
  · rename_i id off hp
    simp only [Option.map_eq_some_iff, Prod.mk.injEq, and_true] at h1
    obtain ⟨us, h2, rfl⟩ := h1
    simp only [resultA, List.mapM_cons, resA, hp, h2, Option.map_some, List.mapM_nil]
    rfl
  · cases h1
end
end Go.Lq

namespace Go.Lq
open Go

def Rounded (l : Nat) (Rb : AObj) (J : AHeap → Prop) (S : AExit → AHeap → Prop) (x : AExit) (_ : Env) (H : AHeap) : Prop :=
  H[l]? = some Rb ∧ ((x = .normal ∧ J H) ∨ (x ≠ .normal ∧ S x H))

theorem rounded_n {l : Nat} {Rb : AObj} {J : AHeap → Prop} {S : AExit → AHeap → Prop} {e : Env} {H : AHeap} (h1 : H[l]? = some Rb) (h2 : J H) : Rounded l Rb J S .normal e H := ⟨h1, .inl ⟨rfl, h2⟩⟩
theorem rounded_x {l : Nat} {Rb : AObj} {J : AHeap → Prop} {S : AExit → AHeap → Prop} {id : Nat} {e : Env} {H : AHeap} (h1 : H[l]? = some Rb) (h2 : S (.exit id) H) : Rounded l Rb J S (.exit id) e H := ⟨h1, .inr ⟨by simp, h2⟩⟩
theorem rounded_r {l : Nat} {Rb : AObj} {J : AHeap → Prop} {S : AExit → AHeap → Prop} {e : Env} {H : AHeap} (h1 : H[l]? = some Rb) (h2 : S .ret H) : Rounded l Rb J S .ret e H := ⟨h1, .inr ⟨by simp, h2⟩⟩

def Round (P : Program) (l : Nat) (assign body : RCode) (env : Env) (H1 : AHeap) (J : AHeap → Prop) (S : AExit → AHeap → Prop) : Prop :=
  ∀ R Rb : AObj, (∃ r, Rb = .loop r) → H1[l]? = some R → AWP P (some l) assign (fun x env1 H2 => x = .normal ∧ H2[l]? = some R ∧ AWP P (some l) body (Rounded l Rb J S) env1 (H2.set l Rb)) env H1

def GenA (P : Program) (f : FuncId) (xs ys : List Value) (Fact : AHeap → Prop) (items : List (List Value)) : Prop :=
  ∀ (l : Nat) (I : List (List Value) → AHeap → Prop) (S : AHeap → Prop) (H : AHeap), (∀ rest H, I rest H → Fact H) →
    (∀ a rest H, I (a :: rest) H → ARound P l a H fun v H' => (v = .bool true ∧ I rest H') ∨ (v = .bool false ∧ S H')) → I items H → ACall P f (xs ++ [.func (.yield l) #[] #[]] ++ ys) H fun _ H' => I [] H' ∨ S H'

theorem GenA.mono {P : Program} {f : FuncId} {xs ys : List Value} {F F' : AHeap → Prop} {items : List (List Value)} (h : GenA P f xs ys F items) (hf : ∀ H, F' H → F H) : GenA P f xs ys F' items :=
  fun l I S H h1 h2 h3 => h l I S H (fun rest H hi => hf H (h1 rest H hi)) h2 h3

section
variable {P : Program} {ar : Option Nat} {g : Operand} {f : FuncId} {xs ys : List Value} {ps : List Nat} {assign body : RCode} {Q : AExit → Env → AHeap → Prop} {env : Env} {H : AHeap} {Fact : AHeap → Prop} {items : List (List Value)}

def recOf (env : Env) (ps : List Nat) (assign body : RCode) : ALoop := { state := .ready, pending := none, env := env, params := ps, assign := assign, body := body }

theorem get_set_self {H : AHeap} {l : Nat} {c d : AObj} (h : H[l]? = some c) : (H.set l d)[l]? = some d := by
  rw [List.getElem?_set_self (List.getElem?_eq_some_iff.1 h).1]
theorem set_set (H : AHeap) (l : Nat) (c d : AObj) : (H.set l c).set l d = H.set l d := List.set_set ..

theorem round_of {l : Nat} {R : ALoop} {a : List Value} {H1 : AHeap} {J : AHeap → Prop} {S : AExit → AHeap → Prop} {Q1 : Value → AHeap → Prop} (hm : P.follows .mixedOrders = true) (hlen : a.length = R.params.length) (h : Round P l R.assign R.body (assignParams R.env R.params a) H1 J S) (hl : H1[l]? = some (.loop R)) (hr : R.state = .ready) (hp : R.pending = none)
    (hJ : ∀ H c, J H → H[l]? = some (.loop R) ∨ True → J (H.set l c)) (hq : ∀ H', H'[l]? = some (.loop R) → J H' → Q1 (.bool true) H')
    (hs : ∀ H' x, x ≠ .normal → H'[l]? = some (.loop { R with state := .done, pending := some x }) → (∃ H3, S x H3 ∧ H' = H3.set l (.loop { R with state := .done, pending := some x })) → Q1 (.bool false) H') : ARound P l a H1 Q1 := by
  refine around_intro hm hl hlen (AWP.mono (h _ _ ⟨_, rfl⟩ hl) fun x env1 H2 ⟨e, h1, h2⟩ => ⟨e, R, h1, hr, AWP.mono h2 fun y env3 H3 ⟨h3, h4⟩ => ⟨_, h3, ?_⟩⟩)
  rcases h4 with ⟨rfl, h4⟩ | ⟨hn, h4⟩
  · have e1 : ({ ({ R with state := .busy } : ALoop) with state := .ready, pending := none } : ALoop) = R := by cases R; simp_all
    have e2 : (AExit.normal == AExit.normal) = true := rfl
    simp only [e2, if_true, e1]
    exact hq _ (get_set_self h3) (hJ _ _ h4 (.inr trivial))
  · have e2 : (y == AExit.normal) = false := by simp [hn]
    simp only [e2, Bool.false_eq_true, if_false]
    exact hs _ y hn (get_set_self h3) ⟨H3, h4, rfl⟩

theorem rangeEnd_n {l : Nat} {R : ALoop} {H' : AHeap} (hl : H'[l]? = some (.loop R)) (hr : R.state = .ready) (hp : R.pending = none) (h : ∀ c, Q .normal env (H'.set l c)) : RangeEnd l env Q H' :=
  ⟨R, hl, by rw [hr]; simp, by rw [hp]; simp, by rw [hp]; exact h _⟩
theorem rangeEnd_x {l : Nat} {R : ALoop} {x : AExit} {H' : AHeap} (hn : x ≠ .normal) (hl : H'[l]? = some (.loop { R with state := .done, pending := some x })) (h : ∀ c, Q x env (H'.set l c)) : RangeEnd l env Q H' :=
  ⟨_, hl, by simp, by simpa using hn, h _⟩

theorem awp_rangeA (hm : P.follows .mixedOrders = true) (hg : evalA env g = .func (.func f) ⟨xs⟩ ⟨ys⟩) (har : ∀ l, ar = some l → ∃ r, H[l]? = some (.loop r)) (hgen : GenA P f xs ys Fact items)
    (J : List (List Value) → AHeap → Prop) (S : AExit → AHeap → Prop) (hJ : ∀ rest H' c, J rest H' → J rest (H'.set H.length c)) (hS : ∀ x H' c, S x H' → S x (H'.set H.length c)) (hF : ∀ rest H', J rest H' → Fact H')
    (h0 : ∀ N, J items (H ++ N))
    (hbody : ∀ a rest H1, J (a :: rest) H1 → H.length < H1.length → a.length = ps.length ∧ Round P H.length assign body (assignParams env ps a) H1 (J rest) S)
    (hend : ∀ H', J [] H' → Q .normal env H') (hstop : ∀ x H', x ≠ .normal → S x H' → Q x env H') : AWP P ar (.rangeFunc g ps assign body) Q env H := by
  refine awp_rangeFunc hg har ?_
  show ACall P f _ (H ++ [.loop (recOf env ps assign body)]) _
  refine (hgen H.length (fun rest H' => J rest H' ∧ H'[H.length]? = some (.loop (recOf env ps assign body)))
    (fun H' => ∃ x, x ≠ .normal ∧ S x H' ∧ H'[H.length]? = some (.loop { recOf env ps assign body with state := .done, pending := some x })) _ (fun rest H' h => hF rest H' h.1) (fun a rest H1 ⟨h1, h2⟩ => ?_) ⟨h0 _, by simp⟩).mono fun _ H' h => ?_
  · refine round_of hm (hbody a rest H1 h1 (List.getElem?_eq_some_iff.1 h2).1).1 (hbody a rest H1 h1 (List.getElem?_eq_some_iff.1 h2).1).2 h2 rfl rfl (fun H' c h _ => hJ _ _ _ h) (fun H' h3 h4 => .inl ⟨rfl, h4, h3⟩) fun H' x hn h3 ⟨H3, h4, e⟩ => .inr ⟨rfl, x, hn, ?_, h3⟩
    rw [e]; exact hS _ _ _ h4
  · rcases h with ⟨h1, h2⟩ | ⟨x, hn, h1, h2⟩
    · exact rangeEnd_n h2 rfl rfl fun c => hend _ (hJ _ _ _ h1)
    · exact rangeEnd_x hn h2 fun c => hstop x _ hn (hS _ _ _ h1)

end

def Keeps (k : Nat) (G H : AHeap) : Prop := G.length ≤ H.length ∧ ∀ i, i < G.length → i ≠ k → H[i]? = G[i]?
theorem Keeps.of_ext {k : Nat} {G H : AHeap} (h : Ext G H) : Keeps k G H := ⟨h.len, fun _ hi _ => h.get hi⟩
theorem Keeps.app {k : Nat} {G H : AHeap} (h : Keeps k G H) (N : AHeap) : Keeps k G (H ++ N) :=
  ⟨by have := h.1; simp; omega, fun i hi hk => by rw [List.getElem?_append_left (by have := h.1; omega)]; exact h.2 i hi hk⟩
theorem Keeps.set {k j : Nat} {G H : AHeap} (h : Keeps k G H) (hj : j = k ∨ G.length ≤ j) (c : AObj) : Keeps k G (H.set j c) :=
  ⟨by simpa using h.1, fun i hi hk => by rw [List.getElem?_set_ne (by omega)]; exact h.2 i hi hk⟩
theorem Keeps.get {k : Nat} {G H : AHeap} (h : Keeps k G H) {i : Nat} {c : AObj} (hi : G[i]? = some c) (hk : i ≠ k) : H[i]? = some c := by
  rw [h.2 i (List.getElem?_eq_some_iff.1 hi).1 hk]; exact hi
theorem ext_of_get {H0 H : AHeap} (hl : H0.length ≤ H.length) (h : ∀ i, i < H0.length → H[i]? = H0[i]?) : Ext H0 H := by
  refine ⟨H.drop H0.length, List.ext_getElem? fun i => ?_⟩
  by_cases hi : i < H0.length
  · rw [List.getElem?_append_left hi]; exact h i hi
  · rw [List.getElem?_append_right (by omega), List.getElem?_drop]
    congr 1; omega
theorem Keeps.ext {k : Nat} {H0 G H : AHeap} (h : Keeps k G H) (hx : Ext H0 G) (hk : H0.length ≤ k) : Ext H0 H :=
  ext_of_get (by have := hx.len; have := h.1; omega) fun i hi => by rw [h.2 i (by have := hx.len; omega) (by omega)]; exact hx.get hi
theorem Keeps.trans {k : Nat} {G H H' : AHeap} (h : Keeps k G H) (h' : Ext H H') : Keeps k G H' := by obtain ⟨N, rfl⟩ := h'; exact h.app N
theorem appH_at {H : AHeap} {v : Value} {sz : Nat} {vs : List Value} {i : Nat} (hi : i < H.length) (hv : v = .slice none 0 0 ∨ idOf v ≠ i) : (appH H v sz vs)[i]? = H[i]? := by
  unfold appH
  split
  · rename_i a n c
    rw [List.getElem?_append_left (by simpa using hi), List.getElem?_set_ne]
    rcases hv with h | h
    · cases h
    · exact h
  · rw [List.getElem?_append_left hi]
end Go.Lq
namespace Go.Lq
open Go
theorem Own.set_ne {H0 H : AHeap} {sz n : Nat} {vs : List Value} {v : Value} (h : Own H0 H sz n vs v) {j : Nat} (hj : n = 0 ∨ idOf v ≠ j) (c : AObj) : Own H0 (H.set j c) sz n vs v :=
  ⟨h.1, h.2.imp_right fun ⟨id, e, h1, h2, hc⟩ => ⟨id, e, h1, h2, by
    subst e
    rw [List.getElem?_set_ne (by rcases hj with h | h; omega; exact fun e => h (by simpa [idOf] using e.symm))]; exact hc⟩⟩
theorem Own.weaken {H0 G H : AHeap} {sz n : Nat} {vs : List Value} {v : Value} (h : Own G H sz n vs v) (hg : H0.length ≤ G.length) : Own H0 H sz n vs v :=
  ⟨h.1, h.2.imp_right fun ⟨id, e, h1, h2⟩ => ⟨id, e, by omega, h2⟩⟩
theorem OwnI.weaken {H0 G H : AHeap} {l : List Int} {v : Value} (h : OwnI G H l v) (hg : H0.length ≤ G.length) : OwnI H0 H l v := Own.weaken h hg
theorem OwnP.weaken {H0 G H : AHeap} {l : List (Int × Int)} {v : Value} (h : OwnP G H l v) (hg : H0.length ≤ G.length) : OwnP H0 H l v := Own.weaken h hg
theorem OwnI.set_ne {H0 H : AHeap} {l : List Int} {v : Value} (h : OwnI H0 H l v) {j : Nat} (hj : l.length = 0 ∨ idOf v ≠ j) (c : AObj) : OwnI H0 (H.set j c) l v := Own.set_ne h hj c
theorem pushH_at {H : AHeap} {v : Value} {l : List Int} {x : Int} {i : Nat} {c : AObj} (h : H[i]? = some c) (hv : v = .slice none 0 0 ∨ idOf v ≠ i) : (pushH H v l x)[i]? = some c := by
  have hi := (List.getElem?_eq_some_iff.1 h).1
  unfold pushH
  rw [appH_at (by simp; omega) hv, List.getElem?_append_left hi]; exact h
theorem pushH_len {H : AHeap} {v : Value} {l : List Int} {x : Int} : (pushH H v l x).length = H.length + 2 := by unfold pushH; rw [appH_len]; simp
theorem OwnI.nil_or {H0 H : AHeap} {l : List Int} {v : Value} (h : OwnI H0 H l v) {i : Nat} (hi : l.length = 0 ∨ idOf v ≠ i) : v = .slice none 0 0 ∨ idOf v ≠ i := by
  rcases h.2 with ⟨rfl, _⟩ | ⟨id, rfl, _, h0, _⟩
  · exact .inl rfl
  · exact .inr (by rcases hi with h | h; omega; exact h)
theorem OwnI.shape {H0 H : AHeap} {l : List Int} {v : Value} (h : OwnI H0 H l v) : ∃ a n c, v = .slice a n c := by
  rcases h.2 with ⟨rfl, _⟩ | ⟨id, rfl, _⟩ <;> exact ⟨_, _, _, rfl⟩
theorem isAtom_sl {v : Value} (h : ∃ a n c, v = .slice a n c) : isAtom v = true := by obtain ⟨_, _, _, rfl⟩ := h; rfl
theorem cells_sl {v : Value} (h : ∃ a n c, v = .slice a n c) : v.cells = ⟨[v]⟩ := by obtain ⟨_, _, _, rfl⟩ := h; rfl
end Go.Lq

namespace Go.Lq
open Go

def mkSliceR (bytes : Nat) (zero : List Value) (l c : Value) (H : AHeap) : Option (Value × AHeap) :=
  match l, c with
  | .int .i64 a, .int .i64 b =>
    if 0 ≤ a ∧ a ≤ b ∧ roomOk bytes b.toNat = true ∧ zero.all isAtom = true ∧ zero.all constOk = true then
      some (.slice (some ⟨H.length, 0, none⟩) a.toNat (if b = 0 then 0 else if a = 0 then 2 else a.toNat), H ++ [.cells true zero.length (zeroRow zero (a.toNat * zero.length))])
    else none
  | _, _ => none
theorem r_mkSlice {ρ : Operand → Value} {H : AHeap} {bytes : Nat} {zero : List Value} {x y : Operand} : ropRun (.mkSlice bytes zero x y) ρ H = mkSliceR bytes zero (ρ x) (ρ y) H := rfl
attribute [go_sem] r_mkSlice
theorem getD_set {α : Type} {l : List α} {d x : α} {i j : Nat} (hi : i < l.length) : (l.set i x).getD j d = if j = i then x else l.getD j d := by
  rw [List.getD_eq_getElem?_getD, List.getElem?_set, List.getD_eq_getElem?_getD]
  by_cases h : i = j
  · subst h; simp [hi]
  · rw [if_neg h, if_neg (fun e => h e.symm)]

theorem Ext.cell {H H' : AHeap} (h : Ext H H') {i : Nat} {c : AObj} (hc : H[i]? = some c) : H'[i]? = some c := (h.get (List.getElem?_eq_some_iff.1 hc).1).trans hc
end Go.Lq

namespace Go.Lq
open Go

def rowVs (k : Nat) (ll : List (List Int)) : List Value := (List.range ll.length).map fun i => .slice (some ⟨k + i, 0, none⟩) (ll.getD i []).length (ll.getD i []).length
def rowOs (ll : List (List Int)) : AHeap := ll.map fun l => .cells true 1 (l.map (.int .i64))
def retLV (H : AHeap) (ll : List (List Int)) : Value := if ll.length = 0 then .slice none 0 0 else .slice (some ⟨H.length + ll.length, 0, none⟩) ll.length ll.length
def retLN (H : AHeap) (ll : List (List Int)) : AHeap := if ll.length = 0 then [] else rowOs ll ++ [.cells true 1 (rowVs H.length ll)]

theorem rowOs_at {H N : AHeap} {ll : List (List Int)} {i : Nat} (hi : i < ll.length) : (H ++ (rowOs ll ++ N))[H.length + i]? = some (.cells true 1 ((ll.getD i []).map (.int .i64))) := by
  rw [List.getElem?_append_right (by omega), Nat.add_sub_cancel_left, List.getElem?_append_left (by simpa [rowOs] using hi), rowOs, List.getElem?_map, List.getElem?_eq_getElem hi, List.getD_eq_getElem?_getD, List.getElem?_eq_getElem hi]
  rfl
theorem rowOs_last {H : AHeap} {ll : List (List Int)} {c : AObj} : (H ++ (rowOs ll ++ [c]))[H.length + ll.length]? = some c := by
  have : (rowOs ll).length = ll.length := by simp [rowOs]
  rw [List.getElem?_append_right (by omega), Nat.add_sub_cancel_left, List.getElem?_append_right (by omega), this, Nat.sub_self]; rfl
theorem OwnL.ret {H0 H : AHeap} {ll : List (List Int)} (hx : H0.length ≤ H.length) : OwnL H0 (H ++ retLN H ll) ll (retLV H ll) := by
  unfold retLN retLV
  by_cases h0 : ll.length = 0
  · obtain rfl := List.length_eq_zero_iff.1 h0
    exact OwnL.nil _ _
  rw [if_neg h0, if_neg h0]
  have hv : ∀ i, i < ll.length → (rowVs H.length ll).getD i undef = .slice (some ⟨H.length + i, 0, none⟩) (ll.getD i []).length (ll.getD i []).length := fun i hi => by
    unfold rowVs
    rw [List.getD_eq_getElem?_getD, List.getElem?_map, List.getElem?_range hi]; rfl
  refine ⟨rowVs H.length ll, ⟨by simp [rowVs], .inr ⟨H.length + ll.length, rfl, by omega, by omega, rowOs_last⟩⟩, fun i hi => ⟨H.length + i, hv i hi, ?_, by omega, rowOs_at hi⟩, fun i j hij hj => ?_⟩
  · show H.length + ll.length ≠ H.length + i
    omega
  · rw [hv i (by omega), hv j hj]
    show H.length + i ≠ H.length + j
    omega

section
variable {P : Program} {g : FuncId} {args : List Value} {H : AHeap} {ll : List (List Int)} {f : Value → Value}
theorem wraps_agg2 {x : Value} (hx : Closed x) : Wraps fun s => .agg ⟨[s, x]⟩ := fun s n a b h => .agg rfl fun i u u' h1 h2 => by
  match i with
  | 0 => simp at h1 h2; subst h1; subst h2; exact h
  | 1 => simp at h1 h2; subst h1; subst h2; exact hx.ren _ _
  | i + 2 => simp at h1
end
end Go.Lq

namespace Go.Lq
open Go

theorem getD_set_ne {α : Type} {l : List α} {d x : α} {i j : Nat} (h : i ≠ j) : (l.set i x).getD j d = l.getD j d := by
  rw [List.getD_eq_getElem?_getD, List.getElem?_set_ne h, List.getD_eq_getElem?_getD]
theorem getD_set_eq {α : Type} {l : List α} {d x : α} {i : Nat} (h : i < l.length) : (l.set i x).getD i d = x := by
  rw [getD_set h, if_pos rfl]
theorem awp_mid {P : Program} {ar : Option Nat} {R y : RCode} {Qy Qz : AExit → Env → AHeap → Prop} {env : Env} {H : AHeap} (m : List Bool) (I : Env → AHeap → Prop)
    (h1 : AWP P ar R (fun x e' H' => x = .normal ∧ I (forget m e') H') env H) (h2 : ∀ e H, I e H → AWP P ar y Qy e H) : AWP P ar R (Seq (AWP P ar y Qy) Qz) env H :=
  AWP.mono h1 fun x e' H' ⟨hx, hI⟩ => by subst hx; exact awp_forget m (h2 _ _ hI)

structure OwnR (k : Nat) (H : AHeap) (ll : List (List Int)) (vs : List Value) : Prop where
  own : H[k]? = some (.cells true 1 vs)
  len : vs.length = ll.length
  row : ∀ i, i < ll.length → OwnI [] H (ll.getD i []) (vs.getD i undef)
  far : ∀ i, i < ll.length → 0 < (ll.getD i []).length → k < idOf (vs.getD i undef)
  apart : ∀ i j, i ≠ j → i < ll.length → j < ll.length → 0 < (ll.getD i []).length → 0 < (ll.getD j []).length → idOf (vs.getD i undef) ≠ idOf (vs.getD j undef)

section
variable {k : Nat} {H G : AHeap} {ll : List (List Int)} {vs : List Value}

def Aside (k : Nat) (ll : List (List Int)) (vs : List Value) (j : Nat) : Prop := j ≠ k ∧ ∀ i, i < ll.length → 0 < (ll.getD i []).length → idOf (vs.getD i undef) ≠ j

theorem OwnI.same {H0 H H' : AHeap} {l : List Int} {v : Value} (h : OwnI H0 H l v) (hs : 0 < l.length → H'[idOf v]? = H[idOf v]?) : OwnI H0 H' l v := by
  refine ⟨h.1, h.2.imp_right fun ⟨id, e, h1, h2, hc⟩ => ⟨id, e, h1, h2, ?_⟩⟩
  subst e
  have := hs h2
  simp only [idOf] at this
  rw [this]; exact hc
theorem OwnR.lt (h : OwnR k H ll vs) : k < H.length := (List.getElem?_eq_some_iff.1 h.own).1
theorem OwnR.idlt (h : OwnR k H ll vs) {i : Nat} (hi : i < ll.length) (hl : 0 < (ll.getD i []).length) : idOf (vs.getD i undef) < H.length := ((h.row i hi).id_lt hl).2
theorem OwnR.app (h : OwnR k H ll vs) (N : AHeap) : OwnR k (H ++ N) ll vs := ⟨at_app h.own, h.len, fun i hi => (h.row i hi).app N, h.far, h.apart⟩
theorem OwnR.set (h : OwnR k H ll vs) {j : Nat} (hj : Aside k ll vs j) (c : AObj) : OwnR k (H.set j c) ll vs :=
  ⟨by rw [List.getElem?_set_ne hj.1]; exact h.own, h.len, fun i hi => (h.row i hi).same fun hl => by rw [List.getElem?_set_ne (Ne.symm (hj.2 i hi hl))], h.far, h.apart⟩
theorem OwnR.sl (h : OwnR k H ll vs) {n c : Nat} (hn : n = ll.length) : Sl H 1 n vs (.slice (some ⟨k, 0, none⟩) n c) := Sl.of h.own (by rw [h.len, hn, Nat.mul_one])
theorem store_cell {k e : Nat} {H : AHeap} {vs : List Value} {v : Value} {i n c : Nat} (h : H[k]? = some (.cells true e vs)) (hi : i < vs.length) (ha : isAtom v = true) (hc : v.cells = ⟨[v]⟩) :
    storeR 1 (addrOf (.slice (some ⟨k, 0, none⟩) n c) i) v H = some (undef, H.set k (.cells true e (vs.set i v))) := by
  have e3 : ([v] : List Value).all isAtom = true := by simp [ha]
  have e4 : (v.cells).toList = [v] := by rw [hc]
  have e5 : (v.cells).size = 1 := by rw [hc]; rfl
  simp only [addrOf, Nat.zero_add, storeR, e5, if_true, storeAt, h, e4, e3, and_true, List.length_cons, List.length_nil]
  rw [if_pos (by omega), setCells_one _ _ _ hi]
  rfl

theorem OwnR.push (h : OwnR k H ll vs) {i : Nat} (hi : i < ll.length) (hb : (ll.getD i []).length < 1000000000) (x : Int) :
    ∃ v2 H2, appendA 1 8 (H ++ [.cells true 1 [.int .i64 x]]) (vs.getD i undef) (.slice (some ⟨H.length, 0, none⟩) 1 1) = some (v2, H2) ∧
      (∀ n c, storeR 1 (addrOf (.slice (some ⟨k, 0, none⟩) n c) i) v2 H2 = some (undef, H2.set k (.cells true 1 (vs.set i v2)))) ∧
      OwnR k (H2.set k (.cells true 1 (vs.set i v2))) (ll.set i (ll.getD i [] ++ [x])) (vs.set i v2) ∧ H.length ≤ idOf v2 ∧
      ∀ j c, Aside k ll vs j → H[j]? = some c → (H2.set k (.cells true 1 (vs.set i v2)))[j]? = some c := by
  have hrow := h.row i hi
  have hvi : i < vs.length := by rw [h.len]; exact hi
  have hne : ∀ j, (0 < (ll.getD i []).length → idOf (vs.getD i undef) ≠ j) → vs.getD i undef = .slice none 0 0 ∨ idOf (vs.getD i undef) ≠ j := fun j hj => hrow.nil_or (by
    by_cases h0 : (ll.getD i []).length = 0
    · exact .inl h0
    · exact .inr (hj (by omega)))
  have hself : (pushH H (vs.getD i undef) (ll.getD i []) x)[k]? = some (.cells true 1 vs) := pushH_at h.own (hne k fun hl => by have := h.far i hi hl; omega)
  have hpush := hrow.pushed ⟨H, by simp⟩ x
  refine ⟨pushV H (ll.getD i []).length, pushH H (vs.getD i undef) (ll.getD i []) x, hrow.push hb x, fun n c => store_cell hself hvi rfl rfl, ⟨get_set_self hself, by simp [h.len], fun j hj => ?_, fun j hj hl => ?_, fun a b hab ha hb' ha0 hb0 => ?_⟩, ?_, fun j c hj hc => ?_⟩
  · simp only [List.length_set] at hj
    by_cases hji : j = i
    · subst hji
      rw [getD_set_eq hi, getD_set_eq hvi]
      refine hpush.set_ne (.inr ?_) _
      show H.length + 1 ≠ k
      have := h.lt; omega
    · rw [getD_set_ne (Ne.symm hji), getD_set_ne (Ne.symm hji)]
      refine (h.row j hj).same fun hl => ?_
      have hjl := h.idlt hj hl
      have hjk := h.far j hj hl
      rw [List.getElem?_set_ne (by omega)]
      unfold pushH
      rw [appH_at (by simp only [List.length_append]; omega) (hne _ fun hl2 => h.apart i j (Ne.symm hji) hi hj hl2 hl), List.getElem?_append_left hjl]
  · simp only [List.length_set] at hj
    by_cases hji : j = i
    · subst hji
      rw [getD_set_eq hvi]
      show k < H.length + 1
      have := h.lt; omega
    · rw [getD_set_ne (Ne.symm hji)] at hl ⊢
      exact h.far j hj hl
  · simp only [List.length_set] at ha hb'
    by_cases hai : a = i
    · subst hai
      rw [getD_set_eq hvi, getD_set_ne hab]
      rw [getD_set_ne hab] at hb0
      have := h.idlt hb' hb0
      show H.length + 1 ≠ _
      omega
    · by_cases hbi : b = i
      · subst hbi
        rw [getD_set_eq hvi, getD_set_ne (Ne.symm hai)]
        rw [getD_set_ne (Ne.symm hai)] at ha0
        have := h.idlt ha ha0
        show _ ≠ H.length + 1
        omega
      · rw [getD_set_ne (Ne.symm hai), getD_set_ne (Ne.symm hbi)]
        rw [getD_set_ne (Ne.symm hai)] at ha0
        rw [getD_set_ne (Ne.symm hbi)] at hb0
        exact h.apart a b hab ha hb' ha0 hb0
  · show H.length ≤ H.length + 1
    omega
  · rw [List.getElem?_set_ne (Ne.symm hj.1)]
    exact pushH_at hc (hne j fun hl => hj.2 i hi hl)

theorem OwnR.setRow (h : OwnR k H ll vs) {i : Nat} (hi : i < ll.length) {l : List Int} {v : Value} (hv : OwnI [] H l v) (hk : 0 < l.length → k < idOf v)
    (ha : ∀ j, j < ll.length → j ≠ i → 0 < (ll.getD j []).length → 0 < l.length → idOf (vs.getD j undef) ≠ idOf v) :
    (∀ n c, storeR 1 (addrOf (.slice (some ⟨k, 0, none⟩) n c) i) v H = some (undef, H.set k (.cells true 1 (vs.set i v)))) ∧ OwnR k (H.set k (.cells true 1 (vs.set i v))) (ll.set i l) (vs.set i v) := by
  have hvi : i < vs.length := by rw [h.len]; exact hi
  refine ⟨fun n c => store_cell h.own hvi (isAtom_sl hv.shape) (cells_sl hv.shape), get_set_self h.own, by simp [h.len], fun j hj => ?_, fun j hj hl => ?_, fun a b hab ha' hb ha0 hb0 => ?_⟩
  · simp only [List.length_set] at hj
    by_cases hji : j = i
    · subst hji
      rw [getD_set_eq hi, getD_set_eq hvi]
      refine hv.set_ne ?_ _
      by_cases h0 : l.length = 0
      · exact .inl h0
      · exact .inr (by have := hk (by omega); omega)
    · rw [getD_set_ne (Ne.symm hji), getD_set_ne (Ne.symm hji)]
      exact (h.row j hj).same fun hl => by rw [List.getElem?_set_ne (by have := h.far j hj hl; omega)]
  · simp only [List.length_set] at hj
    by_cases hji : j = i
    · subst hji
      rw [getD_set_eq hi] at hl
      rw [getD_set_eq hvi]
      exact hk hl
    · rw [getD_set_ne (Ne.symm hji)] at hl ⊢
      exact h.far j hj hl
  · simp only [List.length_set] at ha' hb
    by_cases hai : a = i
    · subst hai
      rw [getD_set_eq hvi, getD_set_ne hab]
      rw [getD_set_eq hi] at ha0
      rw [getD_set_ne hab] at hb0
      exact Ne.symm (ha b hb (Ne.symm hab) hb0 ha0)
    · by_cases hbi : b = i
      · subst hbi
        rw [getD_set_eq hvi, getD_set_ne (Ne.symm hai)]
        rw [getD_set_ne (Ne.symm hai)] at ha0
        rw [getD_set_eq hi] at hb0
        exact ha a ha' hab ha0 hb0
      · rw [getD_set_ne (Ne.symm hai), getD_set_ne (Ne.symm hbi)]
        rw [getD_set_ne (Ne.symm hai)] at ha0
        rw [getD_set_ne (Ne.symm hbi)] at hb0
        exact h.apart a b hab ha' hb ha0 hb0

theorem OwnR.low (h : OwnR k H ll vs) {j : Nat} (hj : j < k) : Aside k ll vs j := ⟨by omega, fun i hi hl => by have := h.far i hi hl; omega⟩
theorem OwnR.keep {H' : AHeap} (h : OwnR k H ll vs) (hx : Ext G H) (hk : G.length ≤ k) (hl : G.length ≤ H'.length) (hs : ∀ j c, Aside k ll vs j → H[j]? = some c → H'[j]? = some c) : Ext G H' :=
  ext_of_get hl fun i hi => by
    rw [← hx.get hi]
    have hlt : i < H.length := by have := hx.len; omega
    rw [List.getElem?_eq_getElem hlt]
    exact hs i _ (h.low (by omega)) (List.getElem?_eq_getElem hlt)
end
end Go.Lq
namespace Go.Lq
open Go
section
variable {H0 H B : AHeap} {ll : List (List Int)} {l : List Int} {v w : Value}
theorem OwnL.app (h : OwnL H0 H ll v) (N : AHeap) : OwnL H0 (H ++ N) ll v := by
  obtain ⟨vs, ho, hr, hd⟩ := h
  exact ⟨vs, ho.app N, fun i hi => by obtain ⟨id, e, h1, h2, h3⟩ := hr i hi; exact ⟨id, e, h1, h2, at_app h3⟩, hd⟩
theorem OwnL.shape (h : OwnL H0 H ll v) : ∃ a n c, v = .slice a n c := by
  obtain ⟨_, ho, _⟩ := h
  rcases ho.2 with ⟨rfl, _⟩ | ⟨id, rfl, _⟩ <;> exact ⟨_, _, _, rfl⟩
end
end Go.Lq
namespace Go.Lq
open Go
theorem closed_list {l : List Value} (h : ∀ v ∈ l, Closed v) : ∀ (i : Nat) v, (⟨l⟩ : Array Value)[i]? = some v → Closed v := fun i v hv => h v (List.mem_of_getElem? (by simpa using hv))
theorem closed_two (a b : Int) : Closed (.tuple #[.int .i64 a, .int .i64 b]) := .tuple _ (closed_list (l := [.int .i64 a, .int .i64 b]) fun v hv => by
  simp only [List.mem_cons, List.not_mem_nil, or_false] at hv
  rcases hv with rfl | rfl <;> exact .int _ _)
end Go.Lq
namespace Go.Lq
open Go
section
variable {P : Program}
theorem AOp.mono {r : ROp} {env : Env} {H : AHeap} {K K' : Value → AHeap → Prop} (h : AOp P r env H K) (hk : ∀ v H', K v H' → K' v H') : AOp P r env H K' := by
  unfold AOp at *
  split at h
  · exact h.mono hk
  · obtain ⟨v, H', h1, h2⟩ := h; exact ⟨v, H', h1, hk _ _ h2⟩
theorem AOps.mono {K K' : Env → AHeap → Prop} (hk : ∀ e H, K e H → K' e H) : ∀ {l : List ROper} {e : Env} {H : AHeap}, AOps P l K e H → AOps P l K' e H
  | [], e, H, h => hk _ _ h
  | o :: l, e, H, ⟨b, h1, h2, h3⟩ => ⟨b, h1, fun hb => (h2 hb).mono fun v H' h => AOps.mono hk h, fun hb => AOps.mono hk (h3 hb)⟩
theorem ADraw.mono {K K' : Env → AHeap → Prop} (hk : ∀ e H, K e H → K' e H) : ∀ {l : List (ROper × Bool)} {B : AHeap} {e : Env} {H : AHeap}, ADraw P l B K e H → ADraw P l B K' e H
  | [], B, e, H, h => hk _ _ h
  | (o, fr) :: l, B, e, H, h => by
    cases hv : isVR o.op && fr with
    | true =>
      rw [adraw_v hv] at h ⊢
      exact AOps.mono hk h
    | false =>
      rw [adraw_n hv] at h ⊢
      obtain ⟨b, h1, h2, h3⟩ := h
      exact ⟨b, h1, fun hb => by obtain ⟨v, H', h4, h5⟩ := h2 hb; exact ⟨v, H', h4, ADraw.mono hk h5⟩, fun hb => ADraw.mono hk (h3 hb)⟩
end
end Go.Lq

namespace Go.Lq
open Go

def flatI (P : Program) : Nat → TypeId → Bool
  | 0, _ => false
  | d + 1, t =>
    match P.underlying t with
    | some (.int .i64) => true
    | some (.struct fs) => offsOk P fs.toList 0 (P.cellsOf t) && fs.toList.all fun f => flatI P d f.type
    | some (.array n e) => decide (n * P.cellsOf e = P.cellsOf t) && flatI P d e
    | _ => false

section
variable {P : Program} {H : AHeap}
theorem ints_fields {cs : List Value} {Q : Value → Prop} : ∀ (fs : List Field) (o : Nat), offsOk P fs o cs.length = true → (∀ f ∈ fs, ∀ v ∈ (cs.drop f.offset).take (P.cellsOf f.type), Q v) → ∀ v ∈ cs.drop o, Q v
  | [], o, ho, _, v, hv => by
    simp only [offsOk, decide_eq_true_eq] at ho
    rw [List.drop_eq_nil_of_le (by omega)] at hv
    cases hv
  | f :: fs, o, ho, h, v, hv => by
    simp only [offsOk, Bool.and_eq_true, decide_eq_true_eq] at ho
    rw [← List.take_append_drop (P.cellsOf f.type) (cs.drop o), List.drop_drop] at hv
    rcases List.mem_append.1 hv with hv | hv
    · exact h f (by simp) v (by rw [ho.1]; exact hv)
    · exact ints_fields fs _ ho.2 (fun g hg => h g (by simp [hg])) v hv
theorem ints_row {cs : List Value} {Q : Value → Prop} {sz : Nat} : ∀ (m o : Nat), cs.length = (o + m) * sz → (∀ i, i < m → ∀ v ∈ (cs.drop ((o + i) * sz)).take sz, Q v) → ∀ v ∈ cs.drop (o * sz), Q v
  | 0, o, hl, _, v, hv => by
    rw [List.drop_eq_nil_of_le (by rw [hl]; simp)] at hv
    cases hv
  | m + 1, o, hl, h, v, hv => by
    rw [← List.take_append_drop sz (cs.drop (o * sz)), List.drop_drop] at hv
    rcases List.mem_append.1 hv with hv | hv
    · exact h 0 (by omega) v (by simpa using hv)
    · refine ints_row m (o + 1) (by rw [hl]; congr 1; omega) (fun i hi v hv => h (i + 1) (by omega) v (by rwa [show o + (i + 1) = o + 1 + i by omega])) v ?_
      rwa [Nat.add_mul, Nat.one_mul]
theorem Rep.allInts : ∀ (d : Nat) (t : TypeId) (cs : List Value), flatI P d t = true → Rep P H t cs → ∀ v ∈ cs, ∃ n, v = .int .i64 n ∧ InI64 n
  | 0, _, _, h, _ => by cases h
  | d + 1, t, cs, hp, hr => by
    simp only [flatI] at hp
    split at hp
    · rename_i ht
      obtain ⟨n, rfl, hw⟩ := hr.int_inv ht
      intro v hv
      simp only [List.mem_cons, List.not_mem_nil, or_false] at hv
      subst hv
      exact ⟨n, rfl, wf_i64 hw⟩
    · rename_i fs ht
      obtain ⟨hl, hf⟩ := hr.struct_inv ht
      simp only [Bool.and_eq_true] at hp
      rw [← hl] at hp
      have := ints_fields (P := P) (cs := cs) (Q := fun v => ∃ n, v = .int .i64 n ∧ InI64 n) fs.toList 0 hp.1 fun f hf' v hv => by
        obtain ⟨i, hi⟩ := List.getElem?_of_mem hf'
        exact Rep.allInts d _ _ (List.all_eq_true.1 hp.2 f hf') (hf i f (by simpa using hi)) v hv
      simpa using this
    · rename_i n e ht
      obtain ⟨hl, hf⟩ := hr.array_inv ht
      simp only [Bool.and_eq_true, decide_eq_true_eq] at hp
      have := ints_row (cs := cs) (Q := fun v => ∃ n, v = .int .i64 n ∧ InI64 n) (sz := P.cellsOf e) n 0 (by rw [hl, ← hp.1]; simp) fun i hi v hv => Rep.allInts d _ _ hp.2 (hf i hi) v (by simpa using hv)
      simpa using this
    · cases hp
theorem cells_ints {cs : List Value} (h : ∀ v ∈ cs, ∃ n, v = .int .i64 n ∧ InI64 n) : ∃ l : List Int, cs = l.map (.int .i64) ∧ ∀ n ∈ l, InI64 n := by
  induction cs with
  | nil => exact ⟨[], rfl, by simp⟩
  | cons v cs ih =>
    obtain ⟨n, rfl, hn⟩ := h v (by simp)
    obtain ⟨l, rfl, hl⟩ := ih fun v hv => h v (by simp [hv])
    exact ⟨n :: l, rfl, fun m hm => by rcases List.mem_cons.1 hm with rfl | hm; exact hn; exact hl m hm⟩
theorem RepA.recI {d : Nat} {t : TypeId} {v : Value} {n : Nat} (ht : (∃ fs, P.underlying t = some (.struct fs)) ∨ ∃ m e, P.underlying t = some (.array m e)) (hc : P.cellsOf t = n) (hf : flatI P d t = true) (h : RepA P H t v) :
    ∃ l : List Int, v = .agg ⟨l.map (.int .i64)⟩ ∧ l.length = n ∧ ∀ m ∈ l, InI64 m := by
  obtain ⟨acs, rfl, hr⟩ : ∃ acs, v = .agg ⟨acs⟩ ∧ Rep P H t acs := by
    rcases ht with ⟨fs, ht⟩ | ⟨m, e, ht⟩
    · exact h.struct ht
    · exact h.array ht
  obtain ⟨l, rfl, hl⟩ := cells_ints (Rep.allInts d t acs hf hr)
  refine ⟨l, rfl, ?_, hl⟩
  have : (l.map (Value.int .i64)).length = P.cellsOf t := by
    rcases ht with ⟨fs, ht⟩ | ⟨m, e, ht⟩
    · exact (hr.struct_inv ht).1
    · exact (hr.array_inv ht).1
  rw [← hc, ← this]; simp
end
end Go.Lq
namespace Go.Lq
open Go
end Go.Lq
namespace Go.Lq
open Go
theorem RepA.headed {P : Program} {H : AHeap} {d : Nat} {t : TypeId} {v : Value} {n : Nat} {fs : Array Field} {f0 : Field} (ht : P.underlying t = some (.struct fs)) (hct : P.cellsOf t = n + 1) (h0 : fs[0]? = some f0) (o0 : f0.offset = 0) (c0 : P.cellsOf f0.type = 1)
    (hoff : offsOk P (fs.toList.drop 1) 1 (n + 1) = true) (hfl : ((fs.toList.drop 1).all fun f => flatI P d f.type) = true) (h : RepA P H t v) :
    ∃ (s : Value) (l : List Int), v = .agg ⟨s :: l.map (.int .i64)⟩ ∧ l.length = n ∧ Rep P H f0.type [s] ∧ ∀ m ∈ l, InI64 m := by
  obtain ⟨acs, rfl, hr⟩ := h.struct ht
  obtain ⟨hl, hf⟩ := hr.struct_inv ht
  rw [hct] at hl
  have g0 := hf 0 f0 h0
  have hall := ints_fields (P := P) (cs := acs) (Q := fun v => ∃ n, v = .int .i64 n ∧ InI64 n) (fs.toList.drop 1) 1 (by rw [hl]; exact hoff) fun f hf' v hv => by
    obtain ⟨i, hi⟩ := List.getElem?_of_mem (List.mem_of_mem_drop hf')
    exact Rep.allInts d _ _ (List.all_eq_true.1 hfl f hf') (hf i f (by simpa using hi)) v hv
  match acs, hl with
  | s :: r, hl =>
    obtain ⟨l, rfl, hl2⟩ := cells_ints (cs := r) (by simpa using hall)
    rw [o0, c0] at g0
    refine ⟨s, l, rfl, by simpa using hl, ?_, hl2⟩
    simpa using g0
end Go.Lq

namespace Go.Lq
open Go
def toV (v : Value) (m : Nat) : Value := match v with | .slice (some ⟨id, off, none⟩) _ _ => .slice (some ⟨id, off, none⟩) m (if m = 0 then 1 else m) | v => v
theorem Sl.to {H : AHeap} {sz n : Nat} {vs : List Value} {v : Value} (h : Sl H sz n vs v) {H' : AHeap} {m : Int} {k : IntKind} (h0 : 0 ≤ m) (h1 : m ≤ n) :
    sliceR sz v none (some (.int k m)) none H' = some (toV v m.toNat, H') := by
  rcases h.2 with ⟨rfl, rfl⟩ | ⟨id, off, c, rfl, _⟩
  · have : m = 0 := by omega
    subst this
    rfl
  · have e2 : (m = 0) = (m.toNat = 0) := by simp; omega
    simp only [sliceR, sliceA, loA, hiA, if_pos (And.intro (Int.le_refl 0) (And.intro h0 h1)), Option.map_some, toV, Int.sub_zero, e2, Int.toNat_zero, Nat.zero_mul, Nat.add_zero]
theorem Sl.upto {H : AHeap} {sz n : Nat} {vs : List Value} {v : Value} (h : Sl H sz n vs v) {m : Nat} (h1 : m ≤ n) : Sl H sz m (vs.take (m * sz)) (toV v m) := by
  obtain ⟨hl, h⟩ := h
  have hm := Nat.mul_le_mul_right sz h1
  refine ⟨by rw [List.length_take, hl]; omega, ?_⟩
  rcases h with ⟨rfl, rfl⟩ | ⟨id, off, c, rfl, hc⟩
  · exact .inl ⟨rfl, by omega⟩
  · refine .inr ⟨id, off, _, rfl, fun hn => ?_⟩
    have := cellsAt_sub (hc (by omega)) (i := 0) (m := m * sz) (by omega)
    simpa using this
theorem Ints.upto {H : AHeap} {l : List Int} {v : Value} (h : Ints H l v) {m : Nat} (h1 : m ≤ l.length) : Ints H (l.take m) (toV v m) := by
  have := Sl.upto h h1
  unfold Ints
  rw [List.length_take, Nat.min_eq_left h1]
  simpa [List.map_take] using this
end Go.Lq

namespace Go.Lq
open Go
theorem store_newN {H : AHeap} {n e : Nat} {us vs : List Value} (ha : us.all isAtom = true) (hl : us.length = vs.length) (hn : n = us.length) : storeR n (.pointer (some ⟨H.length, 0, none⟩)) (.agg ⟨us⟩) (H ++ [.cells true e vs]) = some (undef, H ++ [.cells true e us]) := by
  subst hn; exact store_new ha hl
end Go.Lq

namespace Go.Lq
open Go

def wu (n : Int) : Int := IntKind.u64.wrap n
theorem wu_eq (n : Int) : wu n = n % 18446744073709551616 := by
  unfold wu IntKind.wrap IntKind.bits
  have : (2 : Int) ^ 64 = 18446744073709551616 := by decide
  simp [IntKind.signed]
theorem wu_id {n : Int} (h0 : 0 ≤ n) (h : n < 18446744073709551616) : wu n = n := by rw [wu_eq]; omega
section
variable {H : AHeap} {a b : Int}
theorem a_addU : arithR .add (.int .u64 a) (.int .u64 b) H = some (.int .u64 (wu (a + b)), H) := by simp [arithR, arithA, wu]
theorem a_subU : arithR .sub (.int .u64 a) (.int .u64 b) H = some (.int .u64 (wu (a - b)), H) := by simp [arithR, arithA, wu]
theorem a_mulU : arithR .mul (.int .u64 a) (.int .u64 b) H = some (.int .u64 (wu (a * b)), H) := by simp [arithR, arithA, wu]
theorem a_quoU (h : b ≠ 0) : arithR .quo (.int .u64 a) (.int .u64 b) H = some (.int .u64 (wu (a.tdiv b)), H) := by simp [arithR, arithA, wu, h]
theorem a_remU (h : b ≠ 0) : arithR .rem (.int .u64 a) (.int .u64 b) H = some (.int .u64 (a.tmod b), H) := by simp [arithR, arithA, h]
theorem c_lssU {k : IntKind} : cmpR .lss (.int k a) (.int k b) H = some (.bool (decide (a < b)), H) := by simp [cmpR, cmpA]
theorem c_leqU {k : IntKind} : cmpR .leq (.int k a) (.int k b) H = some (.bool (decide (a ≤ b)), H) := by simp [cmpR, cmpA]
theorem c_gtrU {k : IntKind} : cmpR .gtr (.int k a) (.int k b) H = some (.bool (decide (b < a)), H) := by simp [cmpR, cmpA]
theorem c_geqU {k : IntKind} : cmpR .geq (.int k a) (.int k b) H = some (.bool (decide (b ≤ a)), H) := by simp [cmpR, cmpA]
theorem c_eqlU {k : IntKind} : cmpR .eql (.int k a) (.int k b) H = some (.bool (decide (a = b)), H) := by
  simp [cmpR, cmpA]
  by_cases h : a = b <;> simp [h]
theorem c_neqU {k : IntKind} : cmpR .neq (.int k a) (.int k b) H = some (.bool (decide (a ≠ b)), H) := by
  simp [cmpR, cmpA]
  by_cases h : a = b <;> simp [h]
theorem conv_iu : convR .u64 (.int .i64 a) H = some (.int .u64 (wu a), H) := rfl
theorem conv_ui : convR .i64 (.int .u64 a) H = some (.int .i64 (w64 a), H) := rfl
theorem conv_8i : convR .i64 (.int .u8 a) H = some (.int .i64 (w64 a), H) := rfl
theorem conv_u8 (h0 : 0 ≤ a) (h : a < 256) : convR .u8 (.int .u64 a) H = some (.int .u8 a, H) := by
  simp only [convR, IntKind.wrap, IntKind.bits]
  have : (2 : Int) ^ 8 = 256 := by decide
  simp [IntKind.signed]
  omega
def bandR (x y : Value) (H : AHeap) : Option (Value × AHeap) := match x, y with | .int k a, .int k' b => if k = k' then some (.int k (k.wrap (BitVec.ofInt k.bits a &&& BitVec.ofInt k.bits b).toNat), H) else none | _, _ => none
def borR (x y : Value) (H : AHeap) : Option (Value × AHeap) := match x, y with | .int k a, .int k' b => if k = k' then some (.int k (k.wrap (BitVec.ofInt k.bits a ||| BitVec.ofInt k.bits b).toNat), H) else none | _, _ => none
def shrR (x y : Value) (H : AHeap) : Option (Value × AHeap) := match x, y with | .int k a, .int _ b => if b < 0 then none else some (.int k (a.fdiv (2 ^ min b.toNat k.bits)), H) | _, _ => none
def shlR (x y : Value) (H : AHeap) : Option (Value × AHeap) := match x, y with | .int k a, .int _ b => if b < 0 then none else some (.int k (k.wrap (a * 2 ^ min b.toNat k.bits)), H) | _, _ => none
def idxSR (x i : Value) (H : AHeap) : Option (Value × AHeap) := match x, i with | .string s, .int _ n => (idxStr s n).map fun v => (v, H) | _, _ => none
def lenSR (x : Value) (H : AHeap) : Option (Value × AHeap) := match x with | .string s => some (.int .i64 s.size, H) | _ => none
def strOpR (op : BinOp) (x y : Value) (H : AHeap) : Option (Value × AHeap) := match x, y with | .string a, .string b => (strA op a b).map fun v => (v, H) | _, _ => none
def sliceSR (x : Value) (lo hi : Option Value) (H : AHeap) : Option (Value × AHeap) := match x with | .string s => (subS s lo hi).map fun v => (v, H) | _ => none
variable {ρ : Operand → Value} {x y : Operand}
theorem r_band : ropRun (.band x y) ρ H = bandR (ρ x) (ρ y) H := rfl
theorem r_bor : ropRun (.bor x y) ρ H = borR (ρ x) (ρ y) H := rfl
theorem r_shr : ropRun (.shr x y) ρ H = shrR (ρ x) (ρ y) H := rfl
theorem r_shl : ropRun (.shl x y) ρ H = shlR (ρ x) (ρ y) H := rfl
theorem r_idxS : ropRun (.idxS x y) ρ H = idxSR (ρ x) (ρ y) H := rfl
theorem r_lenS : ropRun (.lenS x) ρ H = lenSR (ρ x) H := rfl
theorem r_strOp {op : BinOp} : ropRun (.strOp op x y) ρ H = strOpR op (ρ x) (ρ y) H := rfl
theorem r_sliceS {lo hi : Option Operand} : ropRun (.sliceS x lo hi) ρ H = sliceSR (ρ x) (lo.map ρ) (hi.map ρ) H := rfl
theorem lenS_s {s : ByteArray} : lenSR (.string s) H = some (.int .i64 s.size, H) := rfl
theorem ofInt_nat {n : Int} (h0 : 0 ≤ n) (h : n < 18446744073709551616) : (BitVec.ofInt 64 n).toNat = n.toNat := by
  rw [BitVec.toNat_ofInt]
  have : ((2 ^ 64 : Nat) : Int) = 18446744073709551616 := by decide
  rw [this]
  congr 1
  omega
theorem band_32 (h0 : 0 ≤ a) (h : a < 18446744073709551616) : bandR (.int .u64 a) (.int .u64 4294967295) H = some (.int .u64 (a % 4294967296), H) := by
  have e : (BitVec.ofInt 64 a &&& BitVec.ofInt 64 4294967295).toNat = (a % 4294967296).toNat := by
    rw [BitVec.toNat_and, ofInt_nat h0 h, ofInt_nat (by decide) (by decide), show (4294967295 : Int).toNat = 2 ^ 32 - 1 by decide, Nat.and_two_pow_sub_one_eq_mod]
    have : (2 : Nat) ^ 32 = 4294967296 := by decide
    rw [this]
    omega
  show (if IntKind.u64 = IntKind.u64 then some (Value.int .u64 (wu ((BitVec.ofInt 64 a &&& BitVec.ofInt 64 4294967295).toNat : Int)), H) else none) = _
  rw [if_pos rfl, e, wu_id (by omega) (by omega)]
  congr 3
  omega
theorem shr_u {k : IntKind} (h0 : 0 ≤ a) (hb : 0 ≤ b) (h : b ≤ 64) : shrR (.int .u64 a) (.int k b) H = some (.int .u64 (a / (2 ^ b.toNat : Nat)), H) := by
  show (if b < 0 then none else some (Value.int .u64 (a.fdiv (2 ^ min b.toNat 64)), H)) = _
  rw [if_neg (by omega), show min b.toNat 64 = b.toNat by omega, Int.fdiv_eq_ediv_of_nonneg _ (Int.pow_nonneg (by decide))]
  congr 4
theorem shl_u {k : IntKind} (hb : 0 ≤ b) (h : b ≤ 64) : shlR (.int .u64 a) (.int k b) H = some (.int .u64 (wu (a * (2 ^ b.toNat : Nat))), H) := by
  show (if b < 0 then none else some (Value.int .u64 (wu (a * 2 ^ min b.toNat 64)), H)) = _
  rw [if_neg (by omega), show min b.toNat 64 = b.toNat by omega]
  congr 4
theorem bor_add {s : Nat} {c : Int} (hc : 0 ≤ c) (ha : c * (2 ^ s : Nat) < 18446744073709551616) (hb0 : 0 ≤ b) (hb : b < (2 ^ s : Nat)) (hs : c * (2 ^ s : Nat) + b < 18446744073709551616) :
    borR (.int .u64 (c * (2 ^ s : Nat))) (.int .u64 b) H = some (.int .u64 (c * (2 ^ s : Nat) + b), H) := by
  have hnn : 0 ≤ c * (2 ^ s : Nat) := Int.mul_nonneg hc (by omega)
  have hb2 : b < 18446744073709551616 := by omega
  have e : (BitVec.ofInt 64 (c * (2 ^ s : Nat)) ||| BitVec.ofInt 64 b).toNat = (c * (2 ^ s : Nat) + b).toNat := by
    rw [BitVec.toNat_or, ofInt_nat hnn ha, ofInt_nat hb0 hb2]
    obtain ⟨cn, rfl⟩ : ∃ n : Nat, c = n := ⟨c.toNat, by omega⟩
    obtain ⟨bn, rfl⟩ : ∃ n : Nat, b = n := ⟨b.toNat, by omega⟩
    have h1 : ((cn : Int) * ((2 ^ s : Nat) : Int)).toNat = 2 ^ s * cn := by rw [← Int.natCast_mul, Int.toNat_natCast, Nat.mul_comm]
    have h2 : ((cn : Int) * ((2 ^ s : Nat) : Int) + (bn : Int)).toNat = 2 ^ s * cn + bn := by rw [← Int.natCast_mul, ← Int.natCast_add, Int.toNat_natCast, Nat.mul_comm]
    rw [h1, h2, Int.toNat_natCast, ← Nat.two_pow_add_eq_or_of_lt (by omega)]
  show (if IntKind.u64 = IntKind.u64 then some (Value.int .u64 (wu ((BitVec.ofInt 64 (c * (2 ^ s : Nat)) ||| BitVec.ofInt 64 b).toNat : Int)), H) else none) = _
  rw [if_pos rfl, e, wu_id (by omega) (by omega)]
  congr 3
  omega
end
theorem shr_32 {k : IntKind} {a : Int} {H : AHeap} (h0 : 0 ≤ a) : shrR (.int .u64 a) (.int k 32) H = some (.int .u64 (a / 4294967296), H) := shr_u h0 (by decide) (by decide)
theorem shr_16 {k : IntKind} {a : Int} {H : AHeap} (h0 : 0 ≤ a) : shrR (.int .u64 a) (.int k 16) H = some (.int .u64 (a / 65536), H) := shr_u h0 (by decide) (by decide)
theorem shr_8 {k : IntKind} {a : Int} {H : AHeap} (h0 : 0 ≤ a) : shrR (.int .u64 a) (.int k 8) H = some (.int .u64 (a / 256), H) := shr_u h0 (by decide) (by decide)
theorem awp_midB {P : Program} {ar : Option Nat} {R y : RCode} {id : Nat} {Qy Qz : AExit → Env → AHeap → Prop} {env : Env} {H : AHeap} (m : List Bool) (I : Env → AHeap → Prop)
    (h1 : AWP P ar R (InBlock id fun x e' H' => x = .normal ∧ I (forget m e') H') env H) (h2 : ∀ e H, I e H → AWP P ar y Qy e H) : AWP P ar R (InBlock id (Seq (AWP P ar y Qy) Qz)) env H :=
  AWP.mono h1 fun x e' H' h => by
    cases x with
    | normal => exact awp_forget m (h2 _ _ h.2)
    | ret => exact absurd h.1 (by simp)
    | exit i =>
      by_cases hi : i = id
      · subst hi
        have h : AExit.normal = .normal ∧ I (forget m e') H' := by simpa [InBlock] using h
        have : Seq (AWP P ar y Qy) Qz .normal e' H' := awp_forget m (h2 _ _ h.2)
        simpa [InBlock] using this
      · have h : AExit.exit i = .normal ∧ I (forget m e') H' := by simpa [InBlock, hi] using h
        exact absurd h.1 (by simp)
attribute [go_sem] shr_32 shr_16 shr_8 band_32
attribute [go_sem] r_band r_bor r_shr r_shl r_idxS r_lenS r_strOp r_sliceS lenS_s a_addU a_subU a_mulU c_lssU c_leqU c_gtrU c_geqU c_eqlU c_neqU conv_iu conv_ui conv_8i wu_id
end Go.Lq
