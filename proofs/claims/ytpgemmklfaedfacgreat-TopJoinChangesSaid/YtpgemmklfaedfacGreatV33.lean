/- TopJoinChanges is proved: for every input that can be read the law returns true, and each argument reads afterwards as it read before; nothing is asked of package variables. -/
import Derived.Test.YtpgemmklfaedfacGreatV32
set_option linter.unusedSimpArgs false
set_option linter.unnecessarySimpa false
set_option linter.unusedVariables false
set_option linter.unusedSectionVars false
set_option maxRecDepth 100000
namespace Go.Lq
open Go
open Go.Proofs
def dRow (l : List Tr) (P k : Nat) : List Int := l.map (devE l P k)
def devTab (l : List Tr) (P N : Nat) : List (List Int) := (List.range N).map (dRow l P)
theorem devTab_succ (l : List Tr) (P N : Nat) : devTab l P (N + 1) = devTab l P N ++ [dRow l P N] := by simp [devTab,List.range_succ]
theorem devTab_len (l : List Tr) (P N : Nat) : (devTab l P N).length = N := by simp [devTab]
theorem dRow_len (l : List Tr) (P k : Nat) : (dRow l P k).length = l.length := by simp [dRow]
theorem map_snoc {α : Type} {l : List Tr} {i : Nat} (hi : i < l.length) (f : Tr → α) : (l.take (i + 1)).map f = (l.take i).map f ++ [f (l.getD i tr0)] := by
  rw [List.take_add_one,List.getElem?_eq_getElem hi,List.getD_eq_getElem?_getD,List.getElem?_eq_getElem hi,List.map_append]
  rfl
theorem dRow_some {l : List Tr} (ho : TrsOk l) {P k i : Nat} (hP : P ≤ 200) (hi : i < l.length) (hc : (l.getD i tr0).cov P k = true) : ((dRow l P k).any fun n => decide (n ≠ -1)) = true := by
  refine List.any_eq_true.2 ⟨devE l P k (l.getD i tr0),List.mem_map.2 ⟨_,?_,rfl⟩,?_⟩
  · rw [List.getD_eq_getElem?_getD,List.getElem?_eq_getElem hi]
    exact List.getElem_mem hi
  · simpa using (devE_ne ho (ho.ok i hi) hP).2 hc
theorem store_pj {k e : Nat} {H : AHeap} {vs : List Value} {v : Value} {i : Nat} (h : H[k]? = some (.cells true e vs)) (hi : i < vs.length) (ha : isAtom v = true) (hc : v.cells = ⟨[v]⟩) :
    storeR 1 (.pointer (some ⟨k,i,none⟩)) v H = some (undef,H.set k (.cells true e (vs.set i v))) := by
  have := store_cell (n := 0) (c := 0) h hi ha hc
  simpa [addrOf] using this
theorem Ext.last_setZ {A H' : AHeap} {c : AObj} (h : Ext (A ++ [c]) H') (c' : AObj) : Ext (A ++ [c']) (H'.set A.length c') := by
  obtain ⟨M,rfl⟩ := h
  exact ⟨M,by simp⟩
section
variable {H : AHeap}
theorem open1_c : Asks (.func (.func 54) #[] #[]) (fun n => decide (n ≠ -1)) := fun n H => by
  show ACall _ _ _ _ _
  simp only [List.append_nil,List.nil_append]
  (refine a54 ?_; simp only [n54,List.replicate,List.length_cons,List.length_nil,List.cons_append,List.nil_append]; first | refine Go.Lq.q1 ?_ | refine Go.Lq.q2 ?_ | refine Go.Lq.q6 ?_ | refine Go.Lq.q7 ?_ | refine Go.Lq.qh rfl ?_ | skip)
  (refine yg ?_)
  exact fin_1 ⟨rfl,rfl⟩
set_option maxRecDepth 100000 in
set_option maxHeartbeats 4000000 in
theorem jopen_c {l : List Tr} {us : List Value} {v : Value} {N P : Nat} {c : Int} (hT : Trs H l us v) (hk : TaskOk l N P c) :
    ACall Go.Proofs.Tryz.prog 22 [.agg ⟨[v,.int .i64 ((N * P : Nat) : Int),.int .i64 (P : Int),.int .i64 c]⟩] H fun w H' => ∃ dv,w = .tuple #[.agg ⟨[v,.int .i64 ((N * P : Nat) : Int),.int .i64 (P : Int),.int .i64 c,dv]⟩,.int .i64 0] ∧ OwnL H H' (devTab l P N) dv ∧ Ext H H' := by
  have ho := hk.trs
  obtain ⟨n1,n2⟩ := ho.len
  have hP1 := hk.P1
  obtain ⟨hN1,hN2⟩ := hk.N1
  have hlen := hk.len
  obtain ⟨hc1,hc2⟩ := hk.chg
  have hgap := hk.gap
  have ha := hT.atom
  have hPN : P ≤ N * P := by have := Nat.mul_le_mul_right P hN1; omega
  have er : ((N * P : Nat) : Int).tmod (P : Int) = 0 := by rw [Int.tmod_eq_emod_of_nonneg (by omega)]; exact Int.emod_eq_zero_of_dvd ⟨(N : Int),by rw [Int.natCast_mul,Int.mul_comm]⟩
  have eq' : ((N * P : Nat) : Int).tdiv (P : Int) = (N : Int) := by rw [Int.tdiv_eq_ediv_of_nonneg (by omega),Int.natCast_mul]; exact Int.mul_ediv_cancel _ (by omega)
  obtain ⟨L,hL⟩ : ∃ L,N * P = L := ⟨_,rfl⟩
  have hLt : ∀ k,k * P < L → k < N := fun k h => by
    rcases Nat.lt_or_ge k N with h1 | h1
    · exact h1
    · have := Nat.mul_le_mul_right P h1; omega
  have hLe : ∀ k,k < N → k * P + P ≤ L := fun k h => by
    have := Nat.mul_le_mul_right P (show k + 1 ≤ N from h)
    rw [Nat.succ_mul] at this; omega
  rw [hL] at hlen hPN er eq' ⊢
  have hne : (P : Int) ≠ 0 := by omega
  have f1 : fillA [.slice none 0 0,.int .i64 0,.int .i64 0,.int .i64 0,.slice none 0 0] [(0,4,.agg ⟨[v,.int .i64 (L : Int),.int .i64 (P : Int),.int .i64 c]⟩)] = some [v,.int .i64 (L : Int),.int .i64 (P : Int),.int .i64 c,.slice none 0 0] := by
    have e1 : (Value.agg ⟨[v,.int .i64 (L : Int),.int .i64 (P : Int),.int .i64 c]⟩).cells = ⟨[v,.int .i64 (L : Int),.int .i64 (P : Int),.int .i64 c]⟩ := rfl
    simp [fillA,e1,ha,isAtom_int,setCells]
  have st5 : ∀ (J : AHeap) (a1 a2 a3 a4 a5 : Value),storeR 5 (.pointer (some ⟨J.length,0,none⟩)) (.agg ⟨[v,.int .i64 (L : Int),.int .i64 (P : Int),.int .i64 c,.slice none 0 0]⟩) (J ++ [.cells true 0 [a1,a2,a3,a4,a5]]) = some (undef,J ++ [.cells true 0 [v,.int .i64 (L : Int),.int .i64 (P : Int),.int .i64 c,.slice none 0 0]]) := fun J a1 a2 a3 a4 a5 =>
    store_new (us := [v,.int .i64 (L : Int),.int .i64 (P : Int),.int .i64 c,.slice none 0 0]) (by simp [ha,isAtom_int,isAtom_slice]) rfl
  (refine a22 ?_; simp only [n22,List.replicate,List.length_cons,List.length_nil,List.cons_append,List.nil_append]; first | refine Go.Lq.q1 ?_ | refine Go.Lq.q2 ?_ | refine Go.Lq.q6 ?_ | refine Go.Lq.q7 ?_ | refine Go.Lq.qh rfl ?_ | skip)
  (repeat(first|refine yw ?_|((first|apply yd|apply ye);simp (disch:=first|exact zz|fail) only[go_sem,box_tk ha,f1,st5];with_reducible rfl)))
  (simp only [List.length_append,List.length_cons,List.length_nil,Nat.zero_add,Nat.add_assoc,Nat.reduceAdd])
  obtain ⟨A,hA⟩ : ∃ A,A = H ++ [AObj.cells true 0 [v,.int .i64 (L : Int),.int .i64 (P : Int),.int .i64 c]] ++ [AObj.cells true 0 [.slice none 0 0,.int .i64 0,.int .i64 0,.int .i64 0,.slice none 0 0]] := ⟨_,rfl⟩
  have a0 : A[H.length]? = some (.cells true 0 [v,.int .i64 (L : Int),.int .i64 (P : Int),.int .i64 c]) := by rw [hA]; exact at_app at_new
  have a1 : A[H.length + 1]? = some (.cells true 0 [.slice none 0 0,.int .i64 0,.int .i64 0,.int .i64 0,.slice none 0 0]) := by rw [hA]; simp
  have xA : Ext H A := by rw [hA]; exact ((Ext.refl H).app _).app _
  have lA : A.length = H.length + 2 := by rw [hA]; simp
  rw [← hA,← lA]
  clear hA
  obtain ⟨G,hG⟩ : ∃ G,G = A ++ [AObj.cells true 0 [v,.int .i64 (L : Int),.int .i64 (P : Int),.int .i64 c,.slice none 0 0]] := ⟨_,rfl⟩
  have g0 : G[H.length]? = some (.cells true 0 [v,.int .i64 (L : Int),.int .i64 (P : Int),.int .i64 c]) := by rw [hG]; exact at_app a0
  have xG : Ext A G := by rw [hG]; exact (Ext.refl A).app _
  rw [← hG]
  (repeat(first|refine yw ?_|((first|apply yd|apply ye);simp (disch:=first|exact zz|fail) only[go_sem,load_at g0];with_reducible rfl)))
  (refine aops_call_to (checkTrs_c (hT.ext (xA.trans xG)) ho) ?_)
  (repeat(first|refine yw ?_|((first|apply yd|apply ye);simp (disch:=first|exact zz|fail) only[go_sem,load_at g0];with_reducible rfl)))
  (refine adraw_call (N := []) (firstD (lengthErr_c (n := (L : Int)) (by omega))) ?_; rw [List.append_nil])
  (repeat(first|refine yw ?_|((first|apply yd|apply ye);simp (disch:=first|exact zz|fail) only[go_sem,load_at g0];with_reducible rfl)))
  (refine adraw_call (N := []) (firstD (within_c (P : Int) 1 (L : Int))) ?_; rw [List.append_nil])
  rw [dec_t (show 1 ≤ (P : Int) ∧ (P : Int) ≤ (L : Int) by omega)]
  (repeat(first|refine yw ?_|((first|apply yd|apply ye);simp (disch:=first|exact zz|fail) only[go_sem,load_at g0];with_reducible rfl)))
  (refine adraw_call (N := []) (firstD (within_c c 0 1000000)) ?_; rw [List.append_nil])
  rw [dec_t (show 0 ≤ c ∧ c ≤ 1000000 by omega)]
  (refine yg ?_)
  (refine adraw_call (N := []) (firstD (unless_c true 2)) ?_; rw [List.append_nil])
  (refine yg ?_)
  (refine adraw_call (N := []) (firstD (first_c (l := [_,_,_]) (Ints.last (l := [_,_,_]) 3) (by simp))) ?_; rw [List.append_nil])
  (refine yg ?_)
  refine cond_t rfl ?_
  have hlG : H.length < G.length := by rw [hG]; simp; omega
  have hlG2 : A.length < G.length := by rw [hG]; simp
  (repeat(first|refine yw ?_|((first|apply yd|apply ye);simp (disch:=first|exact zz|fail) only[go_sem,load_at g0,er];with_reducible rfl)))
  (refine adraw_call (N := []) (firstD (unless_c true 10)) ?_; rw [List.append_nil])
  (repeat(first|refine yw ?_|((first|apply yd|apply ye);simp (disch:=first|exact zz|fail) only[go_sem,load_at g0,eq',dec_t (show (N : Int) ≤ 20 by omega)];with_reducible rfl)))
  (refine adraw_call (N := []) (firstD (unless_c true 8)) ?_; rw [List.append_nil])
  (refine yg ?_)
  (refine adraw_call (N := []) (firstD (first_c (l := [_,_]) (Ints.last (l := [_,_]) 2) (by simp))) ?_; rw [List.append_nil])
  (refine yg ?_)
  refine cond_f rfl ?_
  (refine yg ?_)
  have init : ∀ M : AHeap,Ext (A ++ [AObj.cells true 0 [v,.int .i64 (L : Int),.int .i64 (P : Int),.int .i64 c,.slice none 0 0]]) (G ++ M) := fun M => by rw [← hG]; exact (Ext.refl G).app M
  refine awp_loop_n [false,true,true,false,true,false,false,true,false,false,false,false,false,false,false,false,false,false,false,false,false,false,false,false,false,false,false,false,false,false,false,false,false,false,false,false,false,false,false,false,false,false,false,false,false,false,false,false,false,false,false,false,false,false,false,false,false,false,false,false,false,false,false,false,false,false,false,false,false,false,false,false,false,false,false,false,false,false,false,false,false,false,false,false,false,false,false,false,false,false,false,false] N (fun k e K => ∃ dv,Ext (A ++ [AObj.cells true 0 [v,.int .i64 (L : Int),.int .i64 (P : Int),.int .i64 c,dv]]) K ∧ OwnL (A ++ [AObj.cells true 0 [v,.int .i64 (L : Int),.int .i64 (P : Int),.int .i64 c,dv]]) K (devTab l P k) dv ∧
      e = [junk,.pointer (some ⟨H.length,0,none⟩),.pointer (some ⟨H.length + 1,0,none⟩),junk,.pointer (some ⟨A.length,0,none⟩),junk,junk,.int .i64 ((k * P : Nat) : Int),junk,junk,junk,junk,junk,junk,junk,junk,junk,junk,junk,junk,junk,junk,junk,junk,junk,junk,junk,junk,junk,junk,junk,junk,junk,junk,junk,junk,junk,junk,junk,junk,junk,junk,junk,junk,junk,junk,junk,junk,junk,junk,junk,junk,junk,junk,junk,junk,junk,junk,junk,junk,junk,junk,junk,junk,junk,junk,junk,junk,junk,junk,junk,junk,junk,junk,junk,junk,junk,junk,junk,junk,junk,junk,junk,junk,junk,junk,junk,junk,junk,junk,junk,junk]) ?_ ?_
  · exact ⟨.slice none 0 0,by first | exact init _ | (rw [List.append_assoc]; exact init _),OwnL.nil _ _,by simp [forget]⟩
  clear init hlG hlG2 g0 xG hG
  clear G
  rintro k e K hi ⟨dv,xK,oK,rfl⟩
  obtain ⟨d1,d2,d3,hdv⟩ := oK.shape
  have hda : isAtom dv = true := by rw [hdv]; rfl
  have xAK : Ext A K := ((Ext.refl A).app _).trans xK
  have k0 := xAK.cell a0
  have kx : K[A.length]? = some (.cells true 0 [v,.int .i64 (L : Int),.int .i64 (P : Int),.int .i64 c,dv]) := xK.cell at_new
  have hTK := hT.ext (xA.trans xAK)
  (repeat(first|refine yw ?_|((first|apply yd|apply ye);simp (disch:=first|exact zz|fail) only[go_sem,load_at k0];with_reducible rfl)))
  refine cond_p rfl (fun hlt => ?_) (fun hge => ?_)
  rotate_left 1
  · obtain rfl : k = N := by
      rcases Nat.lt_or_ge k N with h | h
      · have := hLe k h; omega
      · omega
    have k1 := xAK.cell a1
    have hst : storeR 5 (.pointer (some ⟨H.length + 1,0,none⟩)) (.agg ⟨[v,.int .i64 (L : Int),.int .i64 (P : Int),.int .i64 c,dv]⟩) K = some (undef,K.set (H.length + 1) (.cells true 0 [v,.int .i64 (L : Int),.int .i64 (P : Int),.int .i64 c,dv])) :=
      store_all k1 rfl rfl (by simp [ha,hda,isAtom_int])
    (repeat(first|refine yw ?_|((first|apply yd|apply ye);simp (disch:=first|exact zz|fail) only[go_sem,loadN_at kx,hst];with_reducible rfl)))
    refine fin_l2 (u := .agg ⟨[v,.int .i64 (L : Int),.int .i64 (P : Int),.int .i64 c,dv]⟩) ?_ ?_
    · exact loadN_at (k := 0) (get_set_self k1) (by simp)
    · exact ⟨dv,rfl,(oK.set (by simp; omega) _).weaken (by simp; omega),(xA.trans xAK).set (by omega) _⟩
  have hkN : k < N := hLt k (by omega)
  have hkP := hLe k hkN
  (repeat(first|refine yw ?_|((first|apply yd|apply ye);simp (disch:=first|exact zz|fail) only[go_sem,hTK.len,hTK.idx,hTK.load,load_at k0];with_reducible rfl)))
  refine awp_loop_n [false,true,true,false,true,false,false,true,true,false,false,false,false,false,false,false,false,false,false,false,false,false,false,false,false,false,false,false,false,false,false,false,false,false,false,false,false,false,false,false,false,false,false,false,false,false,false,false,false,false,false,false,false,false,false,false,false,false,false,false,false,false,false,false,false,false,false,true,true,true,false,false,false,false,false,false,false,false,false,false,false,false,false,false,false,false,false,false,false,false,false,false] l.length (fun i e J => ∃ rv,e = [junk,.pointer (some ⟨H.length,0,none⟩),.pointer (some ⟨H.length + 1,0,none⟩),junk,.pointer (some ⟨A.length,0,none⟩),junk,junk,.int .i64 ((k * P : Nat) : Int),rv,junk,junk,junk,junk,junk,junk,junk,junk,junk,junk,junk,junk,junk,junk,junk,junk,junk,junk,junk,junk,junk,junk,junk,junk,junk,junk,junk,junk,junk,junk,junk,junk,junk,junk,junk,junk,junk,junk,junk,junk,junk,junk,junk,junk,junk,junk,junk,junk,junk,junk,junk,junk,junk,junk,junk,junk,junk,junk,v,.int .i64 l.length,.int .i64 (i : Int),junk,junk,junk,junk,junk,junk,junk,junk,junk,junk,junk,junk,junk,junk,junk,junk,junk,junk,junk,junk,junk,junk] ∧ Ext K J ∧ OwnI K J ((l.take i).map (devE l P k)) rv) ?_ ?_
  · exact ⟨.slice none 0 0,by simp [forget],Ext.refl _,by simp; exact OwnI.nil _ _⟩
  rintro i e J hi2 ⟨rv,rfl,xJ,oJ⟩
  have hTJ := hTK.ext xJ
  (refine yg ?_)
  refine cond_p rfl (fun hlt2 => ?_) (fun hge2 => ?_)
  · have hi' : i < l.length := by omega
    have hr := hTJ.row hi'
    have jx := xJ.cell kx
    have htl : ((l.take i).map (devE l P k)).length < 1000000000 := by simp; omega
    (repeat(first|refine yw ?_|((first|apply yd|apply ye);simp (disch:=first|exact zz|fail) only[go_sem,hTJ.len,hTJ.idx,hTJ.load,store_tr (ints_atom hr)];with_reducible rfl)))
    obtain ⟨B,hB⟩ : ∃ B,B = J ++ [AObj.cells true 0 [.string (bs (l.getD i tr0).nm),.int .i64 (l.getD i tr0).lag,us.getD i undef]] := ⟨_,rfl⟩
    have xB : Ext J B := by rw [hB]; exact (Ext.refl J).app _
    have oB : OwnI K B ((l.take i).map (devE l P k)) rv := by rw [hB]; exact oJ.app _
    have bt : B[J.length]? = some (.cells true 0 [.string (bs (l.getD i tr0).nm),.int .i64 (l.getD i tr0).lag,us.getD i undef]) := by rw [hB]; exact at_new
    rw [← hB]
    clear hB
    have bx := xB.cell jx
    have xKB := xJ.trans xB
    (repeat(first|refine yw ?_|((first|apply yd|apply ye);simp (disch:=first|exact zz|fail) only[go_sem,loadN_at bx,loadN_at bt];with_reducible rfl)))
    refine aops_call_to (deviation_c (len := (L : Int)) (c := c) (dv := dv) (P := P) (k := k) hda (hTJ.ext xB) ho hi' (by omega)) ?_
    have hpu := oB.push htl (devE l P k (l.getD i tr0))
    have oP := oB.pushed xKB (devE l P k (l.getD i tr0))
    have xP := oB.ext xKB (devE l P k (l.getD i tr0))
    rw [← map_snoc hi'] at oP
    (repeat(first|refine yw ?_|((first|apply yd|apply ye);simp (disch:=first|exact zz|fail) only[go_sem,hpu];with_reducible rfl)))
    exact ⟨by omega,_,by simp [forget],xP,oP⟩
  obtain rfl : i = l.length := by omega
  rw [List.take_length] at oJ
  replace oJ : OwnI K J (dRow l P k) rv := oJ
  obtain ⟨r1,r2,r3,rfl⟩ := oJ.shape
  obtain ⟨i0,hi0,hcov⟩ := hgap k hkN
  have hcf := containsFunc_c oJ.ints open1_c (by rw [dRow_len]; omega)
  rw [dRow_some ho (by omega) hi0 hcov] at hcf
  (refine yg ?_)
  (refine aops_call_to (hcf) ?_)
  (refine yg ?_)
  refine cond_f rfl ?_
  obtain ⟨v',K',hap,oK',xK'⟩ := oK.pushRow xK xJ oJ (by rw [dRow_len]; omega) (by rw [devTab_len]; omega)
  rw [← devTab_succ] at oK'
  have kx' := xK'.cell (at_new : (A ++ [AObj.cells true 0 [v,.int .i64 (L : Int),.int .i64 (P : Int),.int .i64 c,dv]])[A.length]? = _)
  have k0' := (((Ext.refl A).app _).trans xK').cell a0
  obtain ⟨a',n',d',rfl⟩ := oK'.shape
  have jx := xJ.cell kx
  have hst : storeR 1 (.pointer (some ⟨A.length,4,none⟩)) (.slice a' n' d') K' = some (undef,K'.set A.length (.cells true 0 [v,.int .i64 (L : Int),.int .i64 (P : Int),.int .i64 c,.slice a' n' d'])) := store_pj kx' (by simp) rfl rfl
  have k0s : (K'.set A.length (AObj.cells true 0 [v,.int .i64 (L : Int),.int .i64 (P : Int),.int .i64 c,.slice a' n' d']))[H.length]? = some (.cells true 0 [v,.int .i64 (L : Int),.int .i64 (P : Int),.int .i64 c]) := by rw [List.getElem?_set_ne (by omega)]; exact k0'
  have eNext : ((k * P : Nat) : Int) + (P : Int) = (((k + 1) * P : Nat) : Int) := by rw [Nat.succ_mul,Int.natCast_add]
  have jx2 : (J ++ [AObj.cells true 1 [.slice r1 r2 r3]])[A.length]? = some (.cells true 0 [v,.int .i64 (L : Int),.int .i64 (P : Int),.int .i64 c,dv]) := at_app jx
  (repeat(first|refine yw ?_|((first|apply yd|apply ye);simp (disch:=first|exact zz|fail) only[go_sem,load_at jx,load_at jx2,fillA_slice,hap,hst,load_at k0s];with_reducible rfl)))
  refine ⟨by omega,_,xK'.last_setZ _,(oK'.set (by simp) _).weaken (by simp),?_⟩
  simp [forget,Int.add_mul]
end
end Go.Lq

namespace Go.Lq
open Go
open Go.Proofs
def bstG (o n : Int) : Int := if o = -1 ∨ n < o then n else o
def bestL (l : List Int) : Int := l.foldl bstG (-1)
def chgN (c : Int) (i j : Nat) : Int := if i = j then 0 else c
def afterL (c : Int) (i : Nat) : Nat → List Int → List Int
  | _,[] => []
  | k,n :: xs => if n = -1 then afterL c i (k + 1) xs else (chgN c i k + n) :: afterL c i (k + 1) xs
def beforeL (c : Int) (j : Nat) : Nat → List Int → List Int → List Int
  | i,n :: r,q :: qs => if n = -1 then beforeL c j (i + 1) r qs else (q + chgN c i j) :: beforeL c j (i + 1) r qs
  | _,_,_ => []
def someL (l : List Int) : List Int := l.filter fun n => decide (n ≠ -1)
def itemsV (l : List Int) : List (List Value) := l.map fun n => [.int .i64 n]
section
variable {H : AHeap}
theorem store_n1 {H : AHeap} {e : Nat} {x : Value} {n : Int} : storeR 1 (.pointer (some ⟨H.length,0,none⟩)) (.int .i64 n) (H ++ [.cells true e [x]]) = some (undef,H ++ [.cells true e [.int .i64 n]]) := by
  rw [store_pj at_new (by simp) rfl rfl]
  simp
theorem best_c {f : FuncId} {xs ys : List Value} {l : List Int} {Fact : AHeap → Prop} (hgen : GenA Go.Proofs.Tryz.prog f xs ys Fact (itemsV l)) (hF : ∀ H',Ext H H' → Fact H') :
    ACall Go.Proofs.Tryz.prog 24 [.func (.func f) ⟨xs⟩ ⟨ys⟩] H fun v H' => v = .int .i64 (bestL l) ∧ H' = H := by
  refine ACall.drop (.int _ _) ?_
  (refine a24 ?_; simp only [n24,List.replicate,List.length_cons,List.length_nil,List.cons_append,List.nil_append]; first | refine Go.Lq.q1 ?_ | refine Go.Lq.q2 ?_ | refine Go.Lq.q6 ?_ | refine Go.Lq.q7 ?_ | refine Go.Lq.qh rfl ?_ | skip)
  (repeat(first|refine yw ?_|((first|apply yd|apply ye);simp (disch:=first|exact zz|fail) only[go_sem,store_n1];with_reducible rfl)))
  obtain ⟨K,hK⟩ : ∃ K,K = H ++ [AObj.cells true 0 [.int .i64 (-1)]] := ⟨_,rfl⟩
  have k0 : K[H.length]? = some (.cells true 0 [.int .i64 (-1)]) := by rw [hK]; exact at_new
  have xK : Ext H K := by rw [hK]; exact (Ext.refl H).app _
  have lK : K.length = H.length + 1 := by rw [hK]; simp
  rw [← hK]
  clear hK
  refine awp_rangeA mo rfl (fun l h => by cases h) hgen
    (fun rest H' => ∃ o tl,rest = itemsV tl ∧ Ext H H' ∧ H'[H.length]? = some (.cells true 0 [.int .i64 o]) ∧ tl.foldl bstG o = bestL l) (fun _ _ => False) ?_ (fun _ _ _ h => h.elim) ?_ ?_ ?_ ?_ (fun _ _ _ h => h.elim)
  · rintro rest H' c ⟨o,tl,h1,h2,h3,h4⟩
    exact ⟨o,tl,h1,h2.set (by omega) _,by rw [List.getElem?_set_ne (by omega)]; exact h3,h4⟩
  · rintro rest H' ⟨o,tl,h1,h2,h3,h4⟩
    exact hF _ h2
  · intro N
    exact ⟨-1,l,rfl,xK.app N,at_app k0,rfl⟩
  · rintro a rest H1 ⟨o,tl,h1,h2,h3,h4⟩ hlt
    match tl,h1 with
    | n :: tl,h1 =>
    obtain ⟨rfl,rfl⟩ := List.cons.inj h1
    refine ⟨rfl,fun R Rb hRl hR => ?_⟩
    simp only [assignParams,List.zip_cons_cons,List.zip_nil_left,List.foldl_cons,List.foldl_nil]
    (refine yg ?_)
    refine ⟨rfl,hR,?_⟩
    have hRb := get_set_self (d := Rb) hR
    have x2 : Ext H (H1.set K.length Rb) := h2.set (by omega) _
    have h3' : (H1.set K.length Rb)[H.length]? = some (.cells true 0 [.int .i64 o]) := by rw [List.getElem?_set_ne (by omega)]; exact h3
    generalize (H1.set K.length Rb : AHeap) = G at hRb x2 h3'
    have st : storeR 1 (.pointer (some ⟨H.length,0,none⟩)) (.int .i64 n) G = some (undef,G.set H.length (.cells true 0 [.int .i64 n])) := store_pj h3' (by simp) rfl rfl
    have hRs : ∀ c,(G.set H.length c)[K.length]? = some Rb := fun c => by rw [List.getElem?_set_ne (by omega)]; exact hRb
    by_cases ho : o = -1
    · have eo : bstG o n = n := by unfold bstG; rw [if_pos (.inl ho)]
      (repeat(first|refine yw ?_|((first|apply yd|apply ye);simp (disch:=first|exact zz|fail) only[go_sem,load_at h3',dec_t ho];with_reducible rfl)))
      refine cond_t rfl ?_
      (repeat(first|refine yw ?_|((first|apply yd|apply ye);simp (disch:=first|exact zz|fail) only[go_sem,st];with_reducible rfl)))
      exact rounded_n (hRs _) ⟨n,tl,rfl,x2.set (Nat.le_refl _) _,get_set_self h3',by rw [← h4,List.foldl_cons,eo]⟩
    · (repeat(first|refine yw ?_|((first|apply yd|apply ye);simp (disch:=first|exact zz|fail) only[go_sem,load_at h3',dec_f ho];with_reducible rfl)))
      refine cond_p rfl (fun hl => ?_) (fun hl => ?_)
      · have eo : bstG o n = n := by unfold bstG; rw [if_pos (.inr hl)]
        (repeat(first|refine yw ?_|((first|apply yd|apply ye);simp (disch:=first|exact zz|fail) only[go_sem,st];with_reducible rfl)))
        exact rounded_n (hRs _) ⟨n,tl,rfl,x2.set (Nat.le_refl _) _,get_set_self h3',by rw [← h4,List.foldl_cons,eo]⟩
      · have eo : bstG o n = o := by unfold bstG; rw [if_neg (by omega)]
        (refine yg ?_)
        exact rounded_n hRb ⟨o,tl,rfl,x2,h3',by rw [← h4,List.foldl_cons,eo]⟩
  · rintro H' ⟨o,tl,h1,h2,h3,h4⟩
    have : tl = [] := List.map_eq_nil_iff.1 h1.symm
    subst this
    (repeat(first|refine yw ?_|((first|apply yd|apply ye);simp (disch:=first|exact zz|fail) only[go_sem,load_at h3];with_reducible rfl)))
    exact fin_1 ⟨by rw [← h4]; rfl,h2⟩
theorem box_x {v dv : Value} {a b c : Int} (h : isAtom v = true) (h2 : isAtom dv = true) {H : AHeap} : boxR (.agg ⟨[v,.int .i64 a,.int .i64 b,.int .i64 c,dv]⟩) H = some (.pointer (some ⟨H.length,0,none⟩),H ++ [.cells true 0 [v,.int .i64 a,.int .i64 b,.int .i64 c,dv]]) :=
  box_agg (by simp [h,h2,isAtom_int])
theorem change_c {v dv : Value} {a b c : Int} {i j : Nat} (h : isAtom v = true) (h2 : isAtom dv = true) :
    ACall Go.Proofs.Tryz.prog 29 [.agg ⟨[v,.int .i64 a,.int .i64 b,.int .i64 c,dv]⟩,.int .i64 (i : Int),.int .i64 (j : Int)] H fun w H' => w = .int .i64 (chgN c i j) ∧ H' = H := by
  refine ACall.drop (.int _ _) ?_
  (refine a29 ?_; simp only [n29,List.replicate,List.length_cons,List.length_nil,List.cons_append,List.nil_append]; first | refine Go.Lq.q1 ?_ | refine Go.Lq.q2 ?_ | refine Go.Lq.q6 ?_ | refine Go.Lq.q7 ?_ | refine Go.Lq.qh rfl ?_ | skip)
  have hx : Ext H (H ++ [AObj.cells true 0 [v,.int .i64 a,.int .i64 b,.int .i64 c,dv]]) := (Ext.refl H).app _
  (repeat(first|refine yw ?_|((first|apply yd|apply ye);simp (disch:=first|exact zz|fail) only[go_sem,box_x h h2];with_reducible rfl)))
  refine cond_p rfl (fun he => ?_) (fun hne => ?_)
  · (refine yg ?_)
    exact fin_1 ⟨by unfold chgN; rw [if_pos (by omega)]; rfl,hx⟩
  · (refine yg ?_)
    exact fin_1 ⟨by unfold chgN; rw [if_neg (by omega)]; rfl,hx⟩
structure AfFact (idn idt idi : Nat) (nv v dv : Value) (a b c : Int) (i : Nat) (nx : List Int) (H : AHeap) : Prop where
  n : H[idn]? = some (.cells true 0 [nv])
  t : H[idt]? = some (.cells true 0 [v,.int .i64 a,.int .i64 b,.int .i64 c,dv])
  i : H[idi]? = some (.cells true 0 [.int .i64 (i : Int)])
  l : Ints H nx nv
theorem chgN_bound {c : Int} (hc : 0 ≤ c ∧ c ≤ 10000000) (i j : Nat) : 0 ≤ chgN c i j ∧ chgN c i j ≤ 10000000 := by
  unfold chgN; split <;> omega
set_option maxHeartbeats 1000000 in
theorem after1_c {idn idt idi : Nat} {nv v dv : Value} {a b c : Int} {i : Nat} {nx : List Int} (h : isAtom v = true) (h2 : isAtom dv = true) (hc : 0 ≤ c ∧ c ≤ 10000000) (hb : ∀ k,k < nx.length → -1 ≤ nx.getD k 0 ∧ nx.getD k 0 ≤ 1000000000) (hl : nx.length ≤ 1000) :
    GenA Go.Proofs.Tryz.prog 74 [] [.pointer (some ⟨idn,0,none⟩),.pointer (some ⟨idt,0,none⟩),.pointer (some ⟨idi,0,none⟩)] (AfFact idn idt idi nv v dv a b c i nx) (itemsV (afterL c i 0 nx)) := by
  intro l I S H hF hround hI0
  show ACall _ _ [.func (.yield l) #[] #[],.pointer (some ⟨idn,0,none⟩),.pointer (some ⟨idt,0,none⟩),.pointer (some ⟨idi,0,none⟩)] _ _
  obtain ⟨f1,f2,f3,f4⟩ := hF _ _ hI0
  (refine a74 ?_; simp only [n74,List.replicate,List.length_cons,List.length_nil,List.cons_append,List.nil_append]; first | refine Go.Lq.q1 ?_ | refine Go.Lq.q2 ?_ | refine Go.Lq.q6 ?_ | refine Go.Lq.q7 ?_ | refine Go.Lq.qh rfl ?_ | skip)
  (repeat(first|refine yw ?_|((first|apply yd|apply ye);simp (disch:=first|exact zz|fail) only[go_sem,f4.len,f4.idx,f4.load,load_at f1];with_reducible rfl)))
  refine awp_loop_n [true,false,true,true,false,false,false,true,true,true,false,false,false,false,false,false,false,false,false,false,false,false,false,false,false,false,false,false] nx.length (fun k e H' => e = [.func (.yield l) #[] #[],junk,.pointer (some ⟨idt,0,none⟩),.pointer (some ⟨idi,0,none⟩),junk,junk,junk,nv,.int .i64 nx.length,.int .i64 (k : Int),junk,junk,junk,junk,junk,junk,junk,junk,junk,junk,junk,junk,junk,junk,junk,junk,junk,junk] ∧ I (itemsV (afterL c i k (nx.drop k))) H') ?_ ?_
  · exact ⟨by simp [forget],by simpa using hI0⟩
  clear f1 f2 f3 f4
  rintro k e G hk ⟨rfl,hI⟩
  (refine yg ?_)
  refine cond_p rfl (fun hlt => ?_) (fun hge => ?_)
  rotate_left 1
  · obtain rfl : k = nx.length := by omega
    rw [drop_end (Nat.le_refl _)] at hI
    (refine yg ?_)
    exact ⟨.inl rfl,undef,rfl,.inl hI⟩
  have hk' : k < nx.length := by omega
  obtain ⟨f1,f2,f3,f4⟩ := hF _ _ hI
  have hbk := hb k hk'
  rw [drop_getD (d := 0) hk'] at hI
  unfold afterL at hI
  have hcb := chgN_bound hc i k
  by_cases hn : nx.getD k 0 = -1
  · rw [if_pos hn] at hI
    (repeat(first|refine yw ?_|((first|apply yd|apply ye);simp (disch:=first|exact zz|fail) only[go_sem,f4.len,f4.idx,f4.load,dec_f (show ¬ nx.getD k 0 ≠ -1 from fun h => h hn)];with_reducible rfl)))
    refine cond_f rfl ?_
    (refine yg ?_)
    exact ⟨by omega,by simp [forget],hI⟩
  · rw [if_neg hn] at hI
    (repeat(first|refine yw ?_|((first|apply yd|apply ye);simp (disch:=first|exact zz|fail) only[go_sem,f4.len,f4.idx,f4.load,dec_t (show nx.getD k 0 ≠ -1 from hn),loadN_at f2,load_at f3];with_reducible rfl)))
    refine aops_call_to (change_c h h2) ?_
    (refine yg ?_)
    refine aops_call ((hround _ _ _ hI).mono fun v1 H3 hh => ?_)
    rcases hh with ⟨rfl,hI3⟩ | ⟨rfl,hS⟩
    · (refine yg ?_)
      refine cond_f rfl ?_
      (refine yg ?_)
      exact ⟨by omega,by simp [forget],hI3⟩
    · (refine yg ?_)
      refine cond_t rfl ?_
      (refine yg ?_)
      exact ⟨.inr rfl,undef,rfl,.inr hS⟩
theorem after_c {v dv nv : Value} {a b c : Int} {i : Nat} (h : isAtom v = true) (h2 : isAtom dv = true) (h3 : ∃ a n c,nv = .slice a n c) :
    ACall Go.Proofs.Tryz.prog 55 [.agg ⟨[v,.int .i64 a,.int .i64 b,.int .i64 c,dv]⟩,.int .i64 (i : Int),nv] H fun w H' =>
      w = .func (.func 74) #[] #[.pointer (some ⟨H.length + 2,0,none⟩),.pointer (some ⟨H.length,0,none⟩),.pointer (some ⟨H.length + 1,0,none⟩)] ∧
      H' = H ++ [.cells true 0 [v,.int .i64 a,.int .i64 b,.int .i64 c,dv],.cells true 0 [.int .i64 (i : Int)],.cells true 0 [nv]] := by
  obtain ⟨p,q,r,rfl⟩ := h3
  (refine a55 ?_; simp only [n55,List.replicate,List.length_cons,List.length_nil,List.cons_append,List.nil_append]; first | refine Go.Lq.q1 ?_ | refine Go.Lq.q2 ?_ | refine Go.Lq.q6 ?_ | refine Go.Lq.q7 ?_ | refine Go.Lq.qh rfl ?_ | skip)
  have hbx : ∀ J : AHeap,boxR (.slice p q r) J = some (.pointer (some ⟨J.length,0,none⟩),J ++ [.cells true 0 [.slice p q r]]) := fun _ => rfl
  have hbi : ∀ J : AHeap,boxR (.int .i64 (i : Int)) J = some (.pointer (some ⟨J.length,0,none⟩),J ++ [.cells true 0 [.int .i64 (i : Int)]]) := fun _ => rfl
  (repeat(first|refine yw ?_|((first|apply yd|apply ye);simp (disch:=first|exact zz|fail) only[go_sem,box_x h h2,hbx,hbi];with_reducible rfl)))
  refine fin_1 ⟨?_,by simp⟩
  simp [go_sem]
theorem bchoice1_c {id : Nat} {rv v : Value} {rs : List (List Int)} {us : List Value} (h0 : 0 < rs.length) (hl : (rs.getD 0 []).length ≤ 1000) :
    GenA Go.Proofs.Tryz.prog 25 [] [.pointer (some ⟨id,0,none⟩)] (fun H => H[id]? = some (.cells true 0 [rv]) ∧ Lists H rs us rv) (itemsV (someL (rs.getD 0 []))) := by
  intro l I S H hF hround hI0
  show ACall _ _ [.func (.yield l) #[] #[],.pointer (some ⟨id,0,none⟩)] _ _
  obtain ⟨f1,f2⟩ := hF _ _ hI0
  have r0 := f2.row h0
  (refine a25 ?_; simp only [n25,List.replicate,List.length_cons,List.length_nil,List.cons_append,List.nil_append]; first | refine Go.Lq.q1 ?_ | refine Go.Lq.q2 ?_ | refine Go.Lq.q6 ?_ | refine Go.Lq.q7 ?_ | refine Go.Lq.qh rfl ?_ | skip)
  (repeat(first|refine yw ?_|((first|apply yd|apply ye);simp (disch:=first|exact zz|fail) only[go_sem,f2.len,f2.idx,f2.load,r0.len,r0.idx,r0.load,load_at f1,show (0 : Int).toNat = 0 from rfl];with_reducible rfl)))
  refine awp_loop_n [true,false,false,false,false,false,false,true,true,true,false,false,false,false,false,false,false,false,false,false,false,false] (rs.getD 0 []).length (fun k e H' => e = [.func (.yield l) #[] #[],junk,junk,junk,junk,junk,junk,us.getD 0 undef,.int .i64 (rs.getD 0 []).length,.int .i64 (k : Int),junk,junk,junk,junk,junk,junk,junk,junk,junk,junk,junk,junk] ∧ I (itemsV (someL ((rs.getD 0 []).drop k))) H') ?_ ?_
  · exact ⟨by simp [forget],by simpa using hI0⟩
  clear f1 f2 r0
  rintro k e G hk ⟨rfl,hI⟩
  (refine yg ?_)
  refine cond_p rfl (fun hlt => ?_) (fun hge => ?_)
  rotate_left 1
  · obtain rfl : k = (rs.getD 0 []).length := by omega
    rw [drop_end (Nat.le_refl _)] at hI
    (refine yg ?_)
    exact ⟨.inl rfl,undef,rfl,.inl hI⟩
  have hk' : k < (rs.getD 0 []).length := by omega
  obtain ⟨f1,f2⟩ := hF _ _ hI
  have r0 := f2.row h0
  rw [drop_getD (d := 0) hk'] at hI
  unfold someL at hI
  by_cases hn : (rs.getD 0 []).getD k 0 = -1
  · rw [List.filter_cons,dec_f (show ¬ (rs.getD 0 []).getD k 0 ≠ -1 from fun h => h hn),if_neg (by decide)] at hI
    (repeat(first|refine yw ?_|((first|apply yd|apply ye);simp (disch:=first|exact zz|fail) only[go_sem,r0.len,r0.idx,r0.load,dec_f (show ¬ (rs.getD 0 []).getD k 0 ≠ -1 from fun h => h hn)];with_reducible rfl)))
    refine cond_f rfl ?_
    (refine yg ?_)
    exact ⟨by omega,by simp [forget],hI⟩
  · rw [List.filter_cons,dec_t (show (rs.getD 0 []).getD k 0 ≠ -1 from hn),if_pos rfl] at hI
    (repeat(first|refine yw ?_|((first|apply yd|apply ye);simp (disch:=first|exact zz|fail) only[go_sem,r0.len,r0.idx,r0.load,dec_t (show (rs.getD 0 []).getD k 0 ≠ -1 from hn)];with_reducible rfl)))
    refine aops_call ((hround _ _ _ hI).mono fun v1 H3 hh => ?_)
    rcases hh with ⟨rfl,hI3⟩ | ⟨rfl,hS⟩
    · (refine yg ?_)
      refine cond_f rfl ?_
      (refine yg ?_)
      exact ⟨by omega,by simp [forget],hI3⟩
    · (refine yg ?_)
      refine cond_t rfl ?_
      (refine yg ?_)
      exact ⟨.inr rfl,undef,rfl,.inr hS⟩
end
end Go.Lq

namespace Go.Lq
open Go
theorem bstG_fold_bound {M : Int} : ∀ {l : List Int} {o : Int},(∀ n ∈ l,0 ≤ n ∧ n ≤ M) → -1 ≤ o → o ≤ M → -1 ≤ l.foldl bstG o ∧ l.foldl bstG o ≤ M
  | [],o,_,h1,h2 => ⟨h1,h2⟩
  | n :: l,o,h,h1,h2 => by
    have hn := h n (List.mem_cons_self ..)
    refine bstG_fold_bound (l := l) (fun m hm => h m (List.mem_cons_of_mem _ hm)) ?_ ?_
    · unfold bstG; split <;> omega
    · unfold bstG; split <;> omega
theorem bestL_bound {M : Int} {l : List Int} (hM : 0 ≤ M) (h : ∀ n ∈ l,0 ≤ n ∧ n ≤ M) : -1 ≤ bestL l ∧ bestL l ≤ M := bstG_fold_bound h (by omega) (by omega)
theorem bstG_fold_spec : ∀ {l : List Int} {o : Int},(∀ n ∈ l,0 ≤ n) → 0 ≤ o → (l.foldl bstG o = o ∨ l.foldl bstG o ∈ l) ∧ l.foldl bstG o ≤ o ∧ ∀ n ∈ l,l.foldl bstG o ≤ n
  | [],o,_,_ => ⟨.inl rfl,Int.le_refl _,fun n hn => by cases hn⟩
  | m :: l,o,h,h0 => by
    have hm := h m (List.mem_cons_self ..)
    have hl : ∀ n ∈ l,0 ≤ n := fun n hn => h n (List.mem_cons_of_mem _ hn)
    have e : bstG o m = min o m := by unfold bstG; split <;> omega
    rw [List.foldl_cons,e]
    obtain ⟨h1,h2,h3⟩ := bstG_fold_spec (l := l) (o := min o m) hl (by omega)
    refine ⟨?_,by omega,fun n hn => ?_⟩
    · rcases h1 with h1 | h1
      · rw [h1]
        by_cases hom : o ≤ m
        · exact .inl (by omega)
        · exact .inr (by rw [show min o m = m by omega]; exact List.mem_cons_self ..)
      · exact .inr (List.mem_cons_of_mem _ h1)
    · rcases List.mem_cons.1 hn with rfl | hn
      · omega
      · exact h3 n hn
theorem bestL_spec {l : List Int} (h : ∀ n ∈ l,0 ≤ n) (hne : l ≠ []) : bestL l ∈ l ∧ ∀ n ∈ l,bestL l ≤ n := by
  cases l with
  | nil => exact absurd rfl hne
  | cons m l =>
    have hm := h m (List.mem_cons_self ..)
    have e : bestL (m :: l) = l.foldl bstG m := by
      unfold bestL
      rw [List.foldl_cons]
      unfold bstG
      rw [if_pos (.inl rfl)]
    rw [e]
    obtain ⟨h1,h2,h3⟩ := bstG_fold_spec (l := l) (o := m) (fun n hn => h n (List.mem_cons_of_mem _ hn)) hm
    refine ⟨?_,fun n hn => ?_⟩
    · rcases h1 with h1 | h1
      · rw [h1]; exact List.mem_cons_self ..
      · exact List.mem_cons_of_mem _ h1
    · rcases List.mem_cons.1 hn with rfl | hn
      · exact h2
      · exact h3 n hn
theorem mem_afterL {c : Int} {i : Nat} {n : Int} : ∀ {nx : List Int} {k : Nat},n ∈ afterL c i k nx ↔ ∃ j,j < nx.length ∧ nx.getD j 0 ≠ -1 ∧ n = chgN c i (k + j) + nx.getD j 0
  | [],k => by simp [afterL]
  | x :: xs,k => by
    unfold afterL
    have ih := mem_afterL (c := c) (i := i) (n := n) (nx := xs) (k := k + 1)
    constructor
    · intro h
      split at h
      · obtain ⟨j,h1,h2,h3⟩ := ih.1 h
        exact ⟨j + 1,by simpa using h1,by simpa using h2,by rw [h3,show k + 1 + j = k + (j + 1) by omega]; simp⟩
      · rename_i hx
        rcases List.mem_cons.1 h with rfl | h
        · exact ⟨0,by simp,by simpa using hx,by simp⟩
        · obtain ⟨j,h1,h2,h3⟩ := ih.1 h
          exact ⟨j + 1,by simpa using h1,by simpa using h2,by rw [h3,show k + 1 + j = k + (j + 1) by omega]; simp⟩
    · rintro ⟨j,h1,h2,h3⟩
      cases j with
      | zero =>
        have hx : x ≠ -1 := by simpa using h2
        rw [if_neg hx]
        simp at h3
        rw [h3]; exact List.mem_cons_self ..
      | succ j =>
        have : n ∈ afterL c i (k + 1) xs := ih.2 ⟨j,by simpa using h1,by simpa using h2,by rw [h3,show k + 1 + j = k + (j + 1) by omega]; simp⟩
        split
        · exact this
        · exact List.mem_cons_of_mem _ this
theorem mem_beforeL {c : Int} {j : Nat} {n : Int} : ∀ {r q : List Int} {k : Nat},r.length = q.length → (n ∈ beforeL c j k r q ↔ ∃ i,i < r.length ∧ r.getD i 0 ≠ -1 ∧ n = q.getD i 0 + chgN c (k + i) j)
  | [],q,k,_ => by simp [beforeL]
  | x :: xs,[],k,h => by simp at h
  | x :: xs,y :: ys,k,h => by
    unfold beforeL
    have ih := mem_beforeL (c := c) (j := j) (n := n) (r := xs) (q := ys) (k := k + 1) (by simpa using h)
    constructor
    · intro h
      split at h
      · obtain ⟨i,h1,h2,h3⟩ := ih.1 h
        exact ⟨i + 1,by simpa using h1,by simpa using h2,by rw [h3,show k + 1 + i = k + (i + 1) by omega]; simp⟩
      · rename_i hx
        rcases List.mem_cons.1 h with rfl | h
        · exact ⟨0,by simp,by simpa using hx,by simp⟩
        · obtain ⟨i,h1,h2,h3⟩ := ih.1 h
          exact ⟨i + 1,by simpa using h1,by simpa using h2,by rw [h3,show k + 1 + i = k + (i + 1) by omega]; simp⟩
    · rintro ⟨i,h1,h2,h3⟩
      cases i with
      | zero =>
        have hx : x ≠ -1 := by simpa using h2
        rw [if_neg hx]
        simp at h3
        rw [h3]; exact List.mem_cons_self ..
      | succ i =>
        have : n ∈ beforeL c j (k + 1) xs ys := ih.2 ⟨i,by simpa using h1,by simpa using h2,by rw [h3,show k + 1 + i = k + (i + 1) by omega]; simp⟩
        split
        · exact this
        · exact List.mem_cons_of_mem _ this
theorem mem_someL {n : Int} {l : List Int} : n ∈ someL l ↔ ∃ i,i < l.length ∧ l.getD i 0 ≠ -1 ∧ n = l.getD i 0 := by
  unfold someL
  rw [List.mem_filter]
  constructor
  · rintro ⟨h1,h2⟩
    obtain ⟨i,hi,e⟩ := List.getElem_of_mem h1
    have e2 : l.getD i 0 = n := by rw [List.getD_eq_getElem?_getD,List.getElem?_eq_getElem hi,Option.getD_some,e]
    exact ⟨i,hi,by rw [e2]; simpa using h2,e2.symm⟩
  · rintro ⟨i,hi,h1,rfl⟩
    refine ⟨?_,by simpa using h1⟩
    rw [List.getD_eq_getElem?_getD,List.getElem?_eq_getElem hi]
    exact List.getElem_mem hi
/-! ### From a passage on -/
def restG (c : Int) (r nx : List Int) (i : Nat) : Int := if r.getD i 0 = -1 then -1 else r.getD i 0 + bestL (afterL c i 0 nx)
def restRowJ (c : Int) (r nx : List Int) : List Int := (List.range r.length).map (restG c r nx)
def restStep (c : Int) (r : List Int) : List (List Int) → List Int
  | [] => r
  | nx :: _ => restRowJ c r nx
def restAll (c : Int) : List (List Int) → List (List Int)
  | [] => []
  | r :: rs => restStep c r (restAll c rs) :: restAll c rs
theorem restAll_len (c : Int) : ∀ D : List (List Int),(restAll c D).length = D.length
  | [] => rfl
  | r :: rs => by simp [restAll,restAll_len c rs]
theorem restStep_len (c : Int) (r : List Int) (a : List (List Int)) : (restStep c r a).length = r.length := by
  cases a <;> simp [restStep,restRowJ]
theorem restAll_drop (c : Int) : ∀ (D : List (List Int)) (k : Nat),(restAll c D).drop k = restAll c (D.drop k)
  | D,0 => rfl
  | [],k + 1 => rfl
  | r :: rs,k + 1 => by simp only [restAll,List.drop_succ_cons]; exact restAll_drop c rs k
theorem restAll_at {c : Int} {D : List (List Int)} {k : Nat} (hk : k < D.length) : (restAll c D).getD k [] = restStep c (D.getD k []) (restAll c (D.drop (k + 1))) := by
  have h1 := drop_getD (l := restAll c D) (d := []) (i := k) (by rw [restAll_len]; exact hk)
  rw [restAll_drop,drop_getD (d := []) hk] at h1
  exact (List.cons.inj h1).1.symm
structure TabOk (D : List (List Int)) (n : Nat) (B : Int) : Prop where
  len : ∀ r ∈ D,r.length = n
  val : ∀ r ∈ D,∀ x ∈ r,x = -1 ∨ (0 ≤ x ∧ x ≤ B)
  some : ∀ r ∈ D,∃ x ∈ r,x ≠ -1
theorem TabOk.tail {r : List Int} {D : List (List Int)} {n : Nat} {B : Int} (h : TabOk (r :: D) n B) : TabOk D n B :=
  ⟨fun r hr => h.len r (List.mem_cons_of_mem _ hr),fun r hr => h.val r (List.mem_cons_of_mem _ hr),fun r hr => h.some r (List.mem_cons_of_mem _ hr)⟩
theorem TabOk.drop {D : List (List Int)} {n : Nat} {B : Int} (h : TabOk D n B) (k : Nat) : TabOk (D.drop k) n B :=
  ⟨fun r hr => h.len r (List.mem_of_mem_drop hr),fun r hr => h.val r (List.mem_of_mem_drop hr),fun r hr => h.some r (List.mem_of_mem_drop hr)⟩
theorem getD_mem {α : Type} {l : List α} {i : Nat} {d : α} (h : i < l.length) : l.getD i d ∈ l := by
  rw [List.getD_eq_getElem?_getD,List.getElem?_eq_getElem h]
  exact List.getElem_mem h
theorem TabOk.row {D : List (List Int)} {n : Nat} {B : Int} (h : TabOk D n B) {k : Nat} (hk : k < D.length) : (D.getD k []).length = n := h.len _ (getD_mem hk)
theorem TabOk.at {D : List (List Int)} {n : Nat} {B : Int} (h : TabOk D n B) {k i : Nat} (hk : k < D.length) (hi : i < n) : (D.getD k []).getD i 0 = -1 ∨ (0 ≤ (D.getD k []).getD i 0 ∧ (D.getD k []).getD i 0 ≤ B) :=
  h.val _ (getD_mem hk) _ (getD_mem (by rw [h.row hk]; exact hi))
theorem restG_getD {c : Int} {r nx : List Int} {i : Nat} (hi : i < r.length) : (restRowJ c r nx).getD i 0 = restG c r nx i := by
  unfold restRowJ
  rw [List.getD_eq_getElem?_getD,List.getElem?_map,List.getElem?_range hi]; rfl
theorem restAll_ok {c B : Int} {n : Nat} (hc : 0 ≤ c) (hB : 0 ≤ B) : ∀ {D : List (List Int)},TabOk D n B → ∀ k,k < D.length → ∀ i,i < n →
    (((restAll c D).getD k []).getD i 0 = -1 ↔ (D.getD k []).getD i 0 = -1) ∧ -1 ≤ ((restAll c D).getD k []).getD i 0 ∧ ((restAll c D).getD k []).getD i 0 ≤ (B + c) * ((D.length - k : Nat) : Int)
  | [],_,k,hk,_,_ => absurd hk (by simp)
  | r :: rs,h,k + 1,hk,i,hi => by
    have := restAll_ok hc hB h.tail k (by simpa using hk) i hi
    simpa [restAll] using this
  | r :: rs,h,0,hk,i,hi => by
    have hr := h.at (k := 0) hk hi
    simp only [List.getD_cons_zero] at hr
    have hrl : r.length = n := h.len r (List.mem_cons_self ..)
    have hBc : 0 ≤ B + c := by omega
    cases rs with
    | nil =>
      show (r.getD i 0 = -1 ↔ r.getD i 0 = -1) ∧ -1 ≤ r.getD i 0 ∧ r.getD i 0 ≤ (B + c) * ((1 : Nat) : Int)
      exact ⟨Iff.rfl,by omega,by rw [Int.natCast_one,Int.mul_one]; omega⟩
    | cons r2 rs =>
      have ih := restAll_ok hc hB h.tail 0 (by simp)
      have hl2 : (restStep c r2 (restAll c rs)).length = n := by rw [restStep_len]; exact h.len r2 (by simp)
      obtain ⟨M,hM⟩ : ∃ M : Int,M = (B + c) * (((r2 :: rs).length - 0 : Nat) : Int) := ⟨_,rfl⟩
      have hM0 : 0 ≤ M := by rw [hM]; exact Int.mul_nonneg hBc (by omega)
      have eg : ((restAll c (r :: r2 :: rs)).getD 0 []).getD i 0 = restG c r (restStep c r2 (restAll c rs)) i := by
        show (restRowJ c r (restStep c r2 (restAll c rs))).getD i 0 = _
        exact restG_getD (by omega)
      rw [eg]
      have eM : (B + c) * (((r :: r2 :: rs).length - 0 : Nat) : Int) = M + (B + c) := by
        rw [hM]
        simp only [List.length_cons,Nat.sub_zero]
        rw [show (((rs.length + 1 + 1 : Nat)) : Int) = ((rs.length + 1 : Nat) : Int) + 1 by omega,Int.mul_add,Int.mul_one]
      rw [eM]
      have hit : ∀ x ∈ afterL c i 0 (restStep c r2 (restAll c rs)),0 ≤ x ∧ x ≤ M + c := fun x hx => by
        obtain ⟨j,h1,h2,h3⟩ := mem_afterL.1 hx
        have hj := ih j (by omega)
        rw [← hM] at hj
        have ee : ((restAll c (r2 :: rs)).getD 0 []).getD j 0 = (restStep c r2 (restAll c rs)).getD j 0 := rfl
        rw [ee] at hj
        have hcn : 0 ≤ chgN c i (0 + j) ∧ chgN c i (0 + j) ≤ c := by unfold chgN; split <;> omega
        omega
      unfold restG
      simp only [List.getD_cons_zero]
      by_cases hx : r.getD i 0 = -1
      · rw [if_pos hx,hx]
        exact ⟨Iff.rfl,by omega,by omega⟩
      · rw [if_neg hx]
        have hne : afterL c i 0 (restStep c r2 (restAll c rs)) ≠ [] := fun e => by
          obtain ⟨x,hx1,hx2⟩ := h.some r2 (by simp)
          obtain ⟨j,hj,ej⟩ := List.getElem_of_mem hx1
          have hl3 : r2.length = n := h.len r2 (by simp)
          have hj2 : (r2 :: rs).getD 0 [] = r2 := rfl
          have hij := ih j (by omega)
          have ee : ((restAll c (r2 :: rs)).getD 0 []).getD j 0 = (restStep c r2 (restAll c rs)).getD j 0 := rfl
          rw [ee,hj2] at hij
          have e2 : r2.getD j 0 = x := by rw [List.getD_eq_getElem?_getD,List.getElem?_eq_getElem hj,Option.getD_some,ej]
          have : chgN c i (0 + j) + (restStep c r2 (restAll c rs)).getD j 0 ∈ afterL c i 0 (restStep c r2 (restAll c rs)) := mem_afterL.2 ⟨j,by omega,fun h => hx2 (by rw [← e2]; exact hij.1.1 h),rfl⟩
          rw [e] at this
          cases this
        have hb := (bestL_spec (fun x hx => (hit x hx).1) hne).1
        have hb2 := hit _ hb
        refine ⟨⟨fun h => by omega,fun h => absurd h hx⟩,by omega,by omega⟩
end Go.Lq

namespace Go.Lq
open Go
def chgC (c : Int) : Option Nat → Nat → Int
  | none,_ => 0
  | some j,i => if j = i then 0 else c
def costC (c : Int) : Option Nat → List (List Int) → List Nat → Int
  | p,r :: rs,i :: is => r.getD i 0 + chgC c p i + costC c (some i) rs is
  | _,_,_ => 0
def devC : List (List Int) → List Nat → Int
  | r :: rs,i :: is => r.getD i 0 + devC rs is
  | _,_ => 0
def numC : Option Nat → List Nat → Int
  | _,[] => 0
  | p,i :: is => chgC 1 p i + numC (some i) is
def ValidC : List (List Int) → List Nat → Prop
  | [],is => is = []
  | _ :: _,[] => False
  | r :: rs,i :: is => i < r.length ∧ r.getD i 0 ≠ -1 ∧ ValidC rs is
theorem chgC_mul (c : Int) (p : Option Nat) (i : Nat) : chgC c p i = c * chgC 1 p i := by
  cases p with
  | none => simp [chgC]
  | some j => simp only [chgC]; split <;> simp
theorem costC_eq (c : Int) : ∀ (p : Option Nat) (rs : List (List Int)) (is : List Nat),ValidC rs is → costC c p rs is = devC rs is + c * numC p is
  | _,[],is,h => by cases h; simp [costC,devC,numC]
  | _,_ :: _,[],h => h.elim
  | p,r :: rs,i :: is,h => by
    rw [costC,devC,numC,costC_eq c (some i) rs is h.2.2,chgC_mul c p i,Int.mul_add]
    omega
theorem numC_nonneg : ∀ (p : Option Nat) (is : List Nat),0 ≤ numC p is
  | _,[] => Int.le_refl _
  | p,i :: is => by
    rw [numC]
    have := numC_nonneg (some i) is
    have : 0 ≤ chgC 1 p i := by cases p with
      | none => simp [chgC]
      | some j => simp only [chgC]; split <;> simp
    omega
def LeastC (c : Int) (rs : List (List Int)) (a : List Nat) : Prop := ValidC rs a ∧ ∀ x,ValidC rs x → costC c none rs a ≤ costC c none rs x
theorem exchangeC {rs : List (List Int)} {c more : Int} {a b : List Nat} (hc : 0 ≤ c) (hm : 0 ≤ more) (ha : LeastC c rs a) (hb : LeastC (c + more) rs b) :
    costC c none rs a ≤ costC (c + more) none rs b ∧ costC (c + more) none rs b ≤ costC c none rs a + more * numC none a ∧
      (0 < more → numC none b ≤ numC none a ∧ costC c none rs a - c * numC none a ≤ costC (c + more) none rs b - (c + more) * numC none b) := by
  have h1 := ha.2 b hb.1
  have h2 := hb.2 a ha.1
  rw [costC_eq c none rs a ha.1] at h1 ⊢
  rw [costC_eq c none rs b hb.1] at h1
  rw [costC_eq (c + more) none rs b hb.1] at h2 ⊢
  rw [costC_eq (c + more) none rs a ha.1] at h2
  have na := numC_nonneg none a
  have nb := numC_nonneg none b
  generalize devC rs a = A at *
  generalize devC rs b = B at *
  generalize numC none a = k at *
  generalize numC none b = l at *
  rw [Int.add_mul,Int.add_mul] at h2
  have p1 := Int.mul_nonneg hm nb
  refine ⟨by rw [Int.add_mul]; omega,by rw [Int.add_mul]; omega,fun hpos => ?_⟩
  have h3 : l ≤ k := by
    rcases (show k < l ∨ l ≤ k by omega) with hlt | hge
    · exfalso
      have := Int.mul_lt_mul_of_pos_left hlt hpos
      omega
    · exact hge
  have h4 := Int.mul_le_mul_of_nonneg_left h3 hc
  exact ⟨h3,by rw [Int.add_mul]; omega⟩
end Go.Lq

namespace Go.Lq
open Go
theorem costC_snoc (c : Int) : ∀ (p : Option Nat) (rs : List (List Int)) (xs : List Nat) (r : List Int) (i : Nat),rs.length = xs.length → costC c p (rs ++ [r]) (xs ++ [i]) = costC c p rs xs + r.getD i 0 + chgC c (match xs.getLast? with | none => p | some a => some a) i
  | p,[],[],r,i,_ => by simp [costC]
  | p,r0 :: rs,x :: xs,r,i,h => by
    have ih := costC_snoc c (some x) rs xs r i (by simpa using h)
    simp only [List.cons_append,costC]
    rw [ih]
    have e : (match (x :: xs).getLast? with | none => p | some a => some a) = (match xs.getLast? with | none => some x | some a => some a) := by
      cases xs with
      | nil => rfl
      | cons y ys => rw [List.getLast?_cons_cons]; cases h : (y :: ys).getLast? with
        | none => simp at h
        | some z => rfl
    rw [e]
    omega
  | p,[],x :: xs,r,i,h => by simp at h
  | p,r0 :: rs,[],r,i,h => by simp at h
theorem validC_len : ∀ {rs : List (List Int)} {xs : List Nat},ValidC rs xs → xs.length = rs.length
  | [],xs,h => by cases h; rfl
  | r :: rs,[],h => h.elim
  | r :: rs,x :: xs,h => by simp [validC_len h.2.2]
theorem validC_snoc : ∀ {rs : List (List Int)} {xs : List Nat} {r : List Int} {i : Nat},ValidC rs xs → i < r.length → r.getD i 0 ≠ -1 → ValidC (rs ++ [r]) (xs ++ [i])
  | [],xs,r,i,h,h1,h2 => by cases h; exact ⟨h1,h2,rfl⟩
  | r0 :: rs,[],r,i,h,_,_ => h.elim
  | r0 :: rs,x :: xs,r,i,h,h1,h2 => ⟨h.1,h.2.1,validC_snoc h.2.2 h1 h2⟩
theorem validC_init : ∀ {rs : List (List Int)} {y : List Nat} {r : List Int},ValidC (rs ++ [r]) y → ∃ xs i,y = xs ++ [i] ∧ ValidC rs xs ∧ i < r.length ∧ r.getD i 0 ≠ -1
  | [],[],r,h => h.elim
  | [],i :: ys,r,h => by
    obtain ⟨h1,h2,h3⟩ := h
    cases h3
    exact ⟨[],i,rfl,rfl,h1,h2⟩
  | r0 :: rs,[],r,h => h.elim
  | r0 :: rs,x :: ys,r,h => by
    obtain ⟨xs,i,e,h1,h2,h3⟩ := validC_init (rs := rs) (y := ys) h.2.2
    exact ⟨x :: xs,i,by rw [e]; rfl,⟨h.1,h.2.1,h1⟩,h2,h3⟩
theorem chgC_some (c : Int) (j i : Nat) : chgC c (some j) i = chgN c j i := rfl
def candL (c : Int) (p : Option Nat) (row : List Int) : List Int := match p with | none => someL row | some j => afterL c j 0 row
theorem mem_candL {c n : Int} {p : Option Nat} {row : List Int} : n ∈ candL c p row ↔ ∃ i,i < row.length ∧ row.getD i 0 ≠ -1 ∧ n = chgC c p i + row.getD i 0 := by
  cases p with
  | none =>
    show n ∈ someL row ↔ _
    rw [mem_someL]
    simp [chgC]
  | some j =>
    show n ∈ afterL c j 0 row ↔ _
    rw [mem_afterL]
    simp [chgC_some]
theorem chgC_nonneg {c : Int} (hc : 0 ≤ c) (p : Option Nat) (i : Nat) : 0 ≤ chgC c p i := by
  cases p with
  | none => simp [chgC]
  | some j => simp only [chgC]; split <;> omega
theorem candL_spec {c B : Int} {n : Nat} (hc : 0 ≤ c) (hB : 0 ≤ B) {D : List (List Int)} (h : TabOk D n B) {k : Nat} (hk : k < D.length) (p : Option Nat) :
    bestL (candL c p ((restAll c D).getD k [])) ∈ candL c p ((restAll c D).getD k []) ∧ ∀ x ∈ candL c p ((restAll c D).getD k []),bestL (candL c p ((restAll c D).getD k [])) ≤ x := by
  have hl : ((restAll c D).getD k []).length = n := by rw [restAll_at hk,restStep_len,h.row hk]
  refine bestL_spec (fun x hx => ?_) (fun e => ?_)
  · obtain ⟨i,h1,h2,rfl⟩ := mem_candL.1 hx
    have := restAll_ok hc hB h k hk i (by omega)
    have := chgC_nonneg hc p i
    omega
  · obtain ⟨x,hx1,hx2⟩ := h.some _ (getD_mem (d := []) hk)
    obtain ⟨j,hj,ej⟩ := List.getElem_of_mem hx1
    have hj' : j < n := by rw [← h.row hk]; exact hj
    have hij := restAll_ok hc hB h k hk j hj'
    have e2 : (D.getD k []).getD j 0 = x := by rw [List.getD_eq_getElem?_getD (l := D.getD k []),List.getElem?_eq_getElem hj,Option.getD_some,ej]
    have : chgC c p j + ((restAll c D).getD k []).getD j 0 ∈ candL c p ((restAll c D).getD k []) := mem_candL.2 ⟨j,by omega,fun hh => hx2 (by rw [← e2]; exact hij.1.1 hh),rfl⟩
    rw [e] at this
    cases this
theorem restAll_row {c : Int} {D : List (List Int)} {k i : Nat} (hk : k + 1 < D.length) (hi : i < (D.getD k []).length) (h : (D.getD k []).getD i 0 ≠ -1) :
    ((restAll c D).getD k []).getD i 0 = (D.getD k []).getD i 0 + bestL (candL c (some i) ((restAll c D).getD (k + 1) [])) := by
  rw [restAll_at (by omega),drop_getD (d := []) hk,restAll_at hk]
  show (restRowJ c (D.getD k []) _).getD i 0 = _
  rw [restG_getD hi]
  unfold restG
  rw [if_neg h]
  rfl
theorem restAll_last {c : Int} {D : List (List Int)} {k : Nat} (hk : k + 1 = D.length) : (restAll c D).getD k [] = D.getD k [] := by
  rw [restAll_at (by omega),List.drop_of_length_le (by omega)]; rfl
theorem rest_least {c B : Int} {n : Nat} (hc : 0 ≤ c) (hB : 0 ≤ B) : ∀ {D : List (List Int)},TabOk D n B → ∀ (p : Option Nat) (x : List Nat),0 < D.length → ValidC D x → bestL (candL c p ((restAll c D).getD 0 [])) ≤ costC c p D x
  | [],_,p,x,h0,_ => absurd h0 (by simp)
  | r :: rs,h,p,[],_,hv => hv.elim
  | r :: rs,h,p,i :: x,_,hv => by
    obtain ⟨h1,h2,h3⟩ := hv
    have hs := (candL_spec hc hB h (k := 0) (by simp) p).2
    have hl : ((restAll c (r :: rs)).getD 0 []).length = r.length := by rw [restAll_at (by simp),restStep_len]; rfl
    have hok := restAll_ok hc hB h 0 (by simp) i (by rw [← h.len r (List.mem_cons_self ..)]; exact h1)
    have hm := hs _ (mem_candL.2 ⟨i,by rw [hl]; exact h1,fun hh => h2 (hok.1.1 hh),rfl⟩)
    rw [costC]
    cases rs with
    | nil =>
      cases h3
      have e : (restAll c [r]).getD 0 [] = r := rfl
      rw [e] at hm ⊢
      simp only [costC]
      omega
    | cons r2 rs =>
      have ih := rest_least hc hB h.tail (some i) x (by simp) h3
      have e := restAll_row (c := c) (D := r :: r2 :: rs) (k := 0) (i := i) (by simp) h1 h2
      have e3 : ((restAll c (r :: r2 :: rs)).getD (0 + 1) []) = (restAll c (r2 :: rs)).getD 0 [] := rfl
      have e4 : ((r :: r2 :: rs).getD 0 []) = r := rfl
      rw [e3,e4] at e
      rw [e] at hm
      omega
def leftC (c : Int) (D : List (List Int)) (k : Nat) (p : Option Nat) : Int := if k < D.length then bestL (candL c p ((restAll c D).getD k [])) else 0
structure ChoS (c : Int) (D : List (List Int)) (k : Nat) (a : List Nat) (left : Int) : Prop where
  valid : ValidC (D.take k) a
  cost : costC c none (D.take k) a + left = leftC c D 0 none
  left : left = leftC c D k a.getLast?
theorem ChoS.start (c : Int) (D : List (List Int)) : ChoS c D 0 [] (leftC c D 0 none) := ⟨rfl,by simp [costC],rfl⟩
theorem ChoS.goes {c B : Int} {n : Nat} {D : List (List Int)} {k : Nat} {a : List Nat} {left : Int} (h : ChoS c D k a left) (hc : 0 ≤ c) (hB : 0 ≤ B) (hD : TabOk D n B) (hk : k < D.length) :
    ∃ i,i < n ∧ ((restAll c D).getD k []).getD i 0 ≠ -1 ∧ chgC c a.getLast? i + ((restAll c D).getD k []).getD i 0 = left := by
  have hm := (candL_spec hc hB hD hk a.getLast?).1
  have e : left = bestL (candL c a.getLast? ((restAll c D).getD k [])) := by rw [h.left]; unfold leftC; rw [if_pos hk]
  rw [← e] at hm
  obtain ⟨i,h1,h2,h3⟩ := mem_candL.1 hm
  exact ⟨i,by rw [restAll_at hk,restStep_len,hD.row hk] at h1; exact h1,h2,h3.symm⟩
theorem ChoS.step {c B : Int} {n : Nat} {D : List (List Int)} {k : Nat} {a : List Nat} {left : Int} (h : ChoS c D k a left) (hc : 0 ≤ c) (hB : 0 ≤ B) (hD : TabOk D n B) (hk : k < D.length) {i : Nat} (hi : i < n) (h1 : ((restAll c D).getD k []).getD i 0 ≠ -1)
    (h2 : chgC c a.getLast? i + ((restAll c D).getD k []).getD i 0 = left) : ChoS c D (k + 1) (a ++ [i]) (((restAll c D).getD k []).getD i 0 - (D.getD k []).getD i 0) := by
  have hrow := hD.row hk
  have hne : (D.getD k []).getD i 0 ≠ -1 := fun e => h1 ((restAll_ok hc hB hD k hk i hi).1.2 e)
  have et : D.take (k + 1) = D.take k ++ [D.getD k []] := by
    rw [List.take_add_one,List.getElem?_eq_getElem hk,List.getD_eq_getElem?_getD,List.getElem?_eq_getElem hk]; rfl
  have hl := validC_len h.valid
  have eg : (match a.getLast? with | none => none | some b => some b) = a.getLast? := by cases a.getLast? <;> rfl
  refine ⟨?_,?_,?_⟩
  · rw [et]; exact validC_snoc h.valid (by omega) hne
  · rw [et,costC_snoc c none _ _ _ _ hl.symm,eg,← h.cost]
    omega
  · rw [List.getLast?_append]
    simp only [List.getLast?_singleton,Option.some_or]
    unfold leftC
    by_cases hk1 : k + 1 < D.length
    · rw [if_pos hk1,restAll_row hk1 (by omega) hne]; omega
    · rw [if_neg hk1,restAll_last (by omega)]; omega
theorem ChoS.done {c B : Int} {n : Nat} {D : List (List Int)} {a : List Nat} {left : Int} (h : ChoS c D D.length a left) (hc : 0 ≤ c) (hB : 0 ≤ B) (hD : TabOk D n B) (h0 : 0 < D.length) : LeastC c D a ∧ costC c none D a = leftC c D 0 none := by
  obtain ⟨h1,h2,h3⟩ := h
  rw [List.take_length] at h1 h2
  have e : left = 0 := by rw [h3]; unfold leftC; rw [if_neg (Nat.lt_irrefl _)]
  have e2 : costC c none D a = leftC c D 0 none := by omega
  refine ⟨⟨h1,fun x hx => ?_⟩,e2⟩
  rw [e2]
  unfold leftC
  rw [if_pos h0]
  exact rest_least hc hB hD none x h0 hx
end Go.Lq

namespace Go.Lq
open Go
open Go.Proofs
theorem mkSlice_nilsJ {n : Nat} {H : AHeap} (h0 : 0 < n) (hn : n ≤ 1000000000) : mkSliceR 24 [.slice none 0 0] (.int .i64 n) (.int .i64 n) H = some (.slice (some ⟨H.length,0,none⟩) n n,H ++ [.cells true 1 (List.replicate n (.slice none 0 0))]) :=
  mkSlice_zero h0 (roomOk_of (by omega) (by omega)) rfl rfl
theorem OwnR.nilsJ {H : AHeap} (n : Nat) : OwnR H.length (H ++ [.cells true 1 (List.replicate n (.slice none 0 0))]) (List.replicate n []) (List.replicate n (.slice none 0 0)) := by
  have h1 : ∀ i,i < n → (List.replicate n (Value.slice none 0 0)).getD i undef = .slice none 0 0 := fun i hi => by rw [List.getD_eq_getElem?_getD,List.getElem?_replicate,if_pos hi]; rfl
  have h2 : ∀ i,((List.replicate n ([] : List Int)).getD i []) = [] := fun i => by rw [List.getD_eq_getElem?_getD,List.getElem?_replicate]; split <;> rfl
  refine ⟨at_new,by simp,fun i hi => ?_,fun i hi hl => ?_,fun i j _ hi _ hl => ?_⟩
  · rw [h1 i (by simpa using hi),h2]; exact OwnI.nil _ _
  · rw [h2] at hl; simp at hl
  · rw [h2] at hl; simp at hl
def partJ (c : Int) (D : List (List Int)) (k : Nat) (w : List Int) : List (List Int) := List.replicate k [] ++ w :: restAll c (D.drop (k + 1))
theorem partJ_len {c : Int} {D : List (List Int)} {k : Nat} {w : List Int} (hk : k < D.length) : (partJ c D k w).length = D.length := by
  simp [partJ,restAll_len]; omega
theorem partJ_at {c : Int} {D : List (List Int)} {k : Nat} {w : List Int} : (partJ c D k w).getD k [] = w := by
  unfold partJ
  rw [List.getD_eq_getElem?_getD,List.getElem?_append_right (by simp)]
  simp
theorem partJ_set {c : Int} {D : List (List Int)} {k : Nat} {w w' : List Int} : (partJ c D k w).set k w' = partJ c D k w' := by
  unfold partJ
  rw [List.set_append_right _ _ (by simp)]
  simp
theorem partJ_next {c : Int} {D : List (List Int)} {k : Nat} {w : List Int} : (partJ c D k w).getD (k + 1) [] = (restAll c (D.drop (k + 1))).getD 0 [] := by
  unfold partJ
  rw [List.getD_eq_getElem?_getD,List.getElem?_append_right (by simp)]
  simp
theorem partJ_done {c : Int} {D : List (List Int)} {k : Nat} (hk : k < D.length) : partJ c D k ((restAll c D).getD k []) = List.replicate k [] ++ restAll c (D.drop k) := by
  unfold partJ
  rw [← restAll_drop,← restAll_drop,drop_getD (l := restAll c D) (d := []) (i := k) (by rw [restAll_len]; exact hk)]
theorem partJ_start {c : Int} {D : List (List Int)} {k : Nat} : partJ c D k [] = List.replicate (k + 1) [] ++ restAll c (D.drop (k + 1)) := by
  unfold partJ
  rw [List.replicate_succ',List.append_assoc]
  rfl
theorem take_snocI {l : List Int} {i : Nat} (hi : i < l.length) : l.take (i + 1) = l.take i ++ [l.getD i 0] := by
  rw [List.take_add_one,List.getElem?_eq_getElem hi,List.getD_eq_getElem?_getD,List.getElem?_eq_getElem hi]
  rfl
section
variable {H : AHeap}
set_option maxRecDepth 100000 in
set_option maxHeartbeats 4000000 in
theorem jrest_c {v dv : Value} {ds : List Value} {a b c B : Int} {D : List (List Int)} {n : Nat} (hv : isAtom v = true) (hD : Lists H D ds dv) (hk : TabOk D n B) (hn : 0 < n ∧ n ≤ 6) (hN : 0 < D.length ∧ D.length ≤ 20) (hc : 0 ≤ c ∧ c ≤ 10000000) (hB : 0 ≤ B ∧ B ≤ 20000000) :
    ACall Go.Proofs.Tryz.prog 23 [.agg ⟨[v,.int .i64 a,.int .i64 b,.int .i64 c,dv]⟩] H fun w H' => OwnL H H' (restAll c D) w ∧ Ext H H' := by
  have hda : isAtom dv = true := by rcases hD.1.2 with ⟨rfl,_⟩ | ⟨id,off,q,rfl,_⟩ <;> rfl
  obtain ⟨N,hNe⟩ : ∃ N,N = D.length := ⟨_,rfl⟩
  have hdl := hD.1.len (H' := H)
  (refine a23 ?_; simp only [n23,List.replicate,List.length_cons,List.length_nil,List.cons_append,List.nil_append]; first | refine Go.Lq.q1 ?_ | refine Go.Lq.q2 ?_ | refine Go.Lq.q6 ?_ | refine Go.Lq.q7 ?_ | refine Go.Lq.qh rfl ?_ | skip)
  obtain ⟨A,hA⟩ : ∃ A,A = H ++ [AObj.cells true 0 [v,.int .i64 a,.int .i64 b,.int .i64 c,dv]] := ⟨_,rfl⟩
  have a0 : A[H.length]? = some (.cells true 0 [v,.int .i64 a,.int .i64 b,.int .i64 c,dv]) := by rw [hA]; exact at_new
  have xA : Ext H A := by rw [hA]; exact (Ext.refl H).app _
  have hDA := hD.ext xA
  (repeat(first|refine yw ?_|((first|apply yd|apply ye);simp (disch:=first|exact zz|fail) only[go_sem,box_x hv hda];with_reducible rfl)))
  rw [← hA]
  clear hA
  (repeat(first|refine yw ?_|((first|apply yd|apply ye);simp (disch:=first|exact zz|fail) only[go_sem,hDA.len,hDA.idx,hDA.load,load_at a0,mkSlice_nilsJ (n := D.length) hN.1 (by omega)];with_reducible rfl)))
  have o0 : OwnR A.length (A ++ [.cells true 1 (List.replicate D.length (.slice none 0 0))]) (List.replicate D.length []) (List.replicate D.length (.slice none 0 0)) := OwnR.nilsJ _
  refine awp_loop_n [false,true,false,true,true,false,false,false,false,false,false,false,false,false,false,false,false,false,false,false,false,false,false,false,false,false,false,false,false,false,false,false,false,false,false,false,false,false,false,false,false,false,false,false,false,false,false,false,false,false,false,false,false,false,false,false,false,false,false,false,false,false,false] D.length (fun j e K => Ext A K ∧ e = [junk,.pointer (some ⟨H.length,0,none⟩),junk,.slice (some ⟨A.length,0,none⟩) D.length D.length,.int .i64 (((D.length - j : Nat) : Int) - 1),junk,junk,junk,junk,junk,junk,junk,junk,junk,junk,junk,junk,junk,junk,junk,junk,junk,junk,junk,junk,junk,junk,junk,junk,junk,junk,junk,junk,junk,junk,junk,junk,junk,junk,junk,junk,junk,junk,junk,junk,junk,junk,junk,junk,junk,junk,junk,junk,junk,junk,junk,junk,junk,junk,junk,junk,junk,junk] ∧ ∃ vs,OwnR A.length K (List.replicate (D.length - j) [] ++ restAll c (D.drop (D.length - j))) vs) ?_ ?_
  · refine ⟨(Ext.refl A).app _,by simp [forget],List.replicate D.length (.slice none 0 0),?_⟩
    rw [Nat.sub_zero,List.drop_length]
    simpa [restAll] using o0
  clear o0
  rintro j e K hj ⟨xK,rfl,vs,oK⟩
  (refine yg ?_)
  refine cond_p rfl (fun hlt => ?_) (fun hge => ?_)
  rotate_left 1
  · obtain rfl : j = D.length := by omega
    rw [Nat.sub_self] at oK
    simp only [List.replicate_zero,List.nil_append,List.drop_zero] at oK
    (refine yg ?_)
    refine fin_1 ⟨?_,xA.trans xK⟩
    have := oK.ownL (H0 := H) (by have := xA.len; omega) (by rw [restAll_len]; exact hN.1) (fun i hi => by
      rw [restAll_len] at hi
      rw [restAll_at hi,restStep_len,hk.row hi]; exact hn.1)
    rw [restAll_len] at this
    exact this
  obtain ⟨k,hkj⟩ : ∃ k,D.length - j = k + 1 := ⟨D.length - j - 1,by omega⟩
  have hkD : k < D.length := by omega
  have ek : ((D.length - j : Nat) : Int) - 1 = (k : Int) := by omega
  rw [hkj] at oK
  rw [← partJ_start] at oK
  rw [ek]
  have hDK := hDA.ext xK
  have hrow := hDK.row hkD
  have hrl := hk.row hkD
  have k0 := xK.cell a0
  (repeat(first|refine yw ?_|((first|apply yd|apply ye);simp (disch:=first|exact zz|fail) only[go_sem,hDK.len,hDK.idx,hDK.load,hrow.len,hrow.idx,hrow.load,load_at k0];with_reducible rfl)))
  obtain ⟨W,hW⟩ : ∃ W,W = (restAll c D).getD k [] := ⟨_,rfl⟩
  have hWl : W.length = n := by rw [hW,restAll_at hkD,restStep_len]; exact hrl
  refine awp_loop_n [false,true,false,true,true,false,false,false,false,false,false,false,false,false,false,false,false,false,false,false,false,false,false,true,true,true,false,false,false,false,false,false,false,false,false,false,false,false,false,false,false,false,false,false,false,false,false,false,false,false,false,false,false,false,false,false,false,false,false,false,false,false,false] n (fun i e J => Ext A J ∧ e = [junk,.pointer (some ⟨H.length,0,none⟩),junk,.slice (some ⟨A.length,0,none⟩) D.length D.length,.int .i64 (k : Int),junk,junk,junk,junk,junk,junk,junk,junk,junk,junk,junk,junk,junk,junk,junk,junk,junk,junk,ds.getD k undef,.int .i64 ((D.getD k []).length : Nat),.int .i64 (i : Int),junk,junk,junk,junk,junk,junk,junk,junk,junk,junk,junk,junk,junk,junk,junk,junk,junk,junk,junk,junk,junk,junk,junk,junk,junk,junk,junk,junk,junk,junk,junk,junk,junk,junk,junk,junk,junk] ∧ ∃ vs,OwnR A.length J (partJ c D k (W.take i)) vs) ?_ ?_
  · exact ⟨xK,by simp [forget],vs,by simpa using oK⟩
  clear oK xK hDK hrow k0
  clear vs K
  rintro i e J hi ⟨xJ,rfl,vs,oJ⟩
  (refine yg ?_)
  refine cond_p rfl (fun hlt2 => ?_) (fun hge2 => ?_)
  rotate_left 1
  · obtain rfl : i = n := by omega
    rw [← hWl,List.take_length,hW,partJ_done hkD] at oJ
    (refine yg ?_)
    exact ⟨by omega,xJ,by simp [forget]; omega,vs,by rw [show D.length - (j + 1) = k by omega]; exact oJ⟩
  have hi' : i < n := by omega
  have hDJ := hDA.ext xJ
  have hrow := hDJ.row hkD
  have j0 := xJ.cell a0
  have hat := hk.at hkD hi'
  obtain ⟨own,hown⟩ : ∃ own,own = (D.getD k []).getD i 0 := ⟨_,rfl⟩
  rw [← hown] at hat
  have hT := partJ_len (c := c) (w := W.take i) hkD
  have hTat : (partJ c D k (W.take i)).getD k [] = W.take i := partJ_at
  have hok := restAll_ok (c := c) (B := B) hc.1 hB.1 hk k hkD i hi'
  rw [← hW] at hok
  obtain ⟨x,hx⟩ : ∃ x,x = W.getD i 0 := ⟨_,rfl⟩
  have hsn := take_snocI (l := W) (i := i) (by omega)
  rw [← hx] at hsn
  -- what is put behind the row
  have fin : ∀ {J2 : AHeap} {vs : List Value},Ext A J2 → OwnR A.length J2 (partJ c D k (W.take i)) vs → ∃ v2 H2 H3 vs2,appendA 1 8 (J2 ++ [.cells true 1 [.int .i64 x]]) (vs.getD k undef) (.slice (some ⟨J2.length,0,none⟩) 1 1) = some (v2,H2) ∧
      (∀ n c,storeR 1 (addrOf (.slice (some ⟨A.length,0,none⟩) n c) k) v2 H2 = some (undef,H3)) ∧ Ext A H3 ∧ OwnR A.length H3 (partJ c D k (W.take (i + 1))) vs2 := fun {J2 vs} x2 o2 => by
    obtain ⟨v2,H2,p1,p2,p3,p4,p5⟩ := o2.push (i := k) (by rw [hT]; exact hkD) (by rw [hTat,List.length_take]; omega) x
    rw [hTat,partJ_set,← hsn] at p3
    refine ⟨v2,H2,_,_,p1,p2,o2.keep x2 (Nat.le_refl _) ?_ p5,p3⟩
    have := p3.lt
    omega
  have hxb : x ≤ 600000000 := by
    have h1 : (B + c) * ((D.length - k : Nat) : Int) ≤ 30000000 * 20 := Int.mul_le_mul (by omega) (by omega) (by omega) (by decide)
    rw [hx]; omega
  have hLT := oJ.lists (n := D.length) (c := D.length) hT.symm
  have hTi : ((partJ c D k (W.take i)).length : Int) = (D.length : Int) := by rw [hT]
  by_cases ho : own = -1
  · have ex : x = own := by rw [hx,ho]; exact hok.1.2 (by rw [← hown]; exact ho)
    obtain ⟨v2,H2,H3,vs2,p1,p2,x3,o3⟩ := fin xJ oJ
    rw [ex] at p1
    (repeat(first|refine yw ?_|((first|apply yd|apply ye);simp (disch:=first|exact zz|fail) only[go_sem,hrow.len,hrow.idx,hrow.load,← hown,dec_f (show ¬ own ≠ -1 from fun h => h ho)];with_reducible rfl)))
    refine cond_f rfl ?_
    (repeat(first|refine yw ?_|((first|apply yd|apply ye);simp (disch:=first|exact zz|fail) only[go_sem,hLT.len,hLT.idx,hLT.load,p1,p2];with_reducible rfl)))
    exact ⟨by omega,x3,by simp [forget],vs2,o3⟩
  by_cases hlast : k + 1 < D.length
  rotate_left 1
  · have ex : x = own := by
      rw [hx,hW,restAll_at hkD,List.drop_of_length_le (by omega),hown]; rfl
    obtain ⟨v2,H2,H3,vs2,p1,p2,x3,o3⟩ := fin xJ oJ
    rw [ex] at p1
    (repeat(first|refine yw ?_|((first|apply yd|apply ye);simp (disch:=first|exact zz|fail) only[go_sem,hrow.len,hrow.idx,hrow.load,← hown,dec_t (show own ≠ -1 from ho),dec_f (show ¬ (k : Int) + 1 < (D.length : Int) by omega)];with_reducible rfl)))
    refine cond_f rfl ?_
    (repeat(first|refine yw ?_|((first|apply yd|apply ye);simp (disch:=first|exact zz|fail) only[go_sem,hLT.len,hLT.idx,hLT.load,p1,p2];with_reducible rfl)))
    exact ⟨by omega,x3,by simp [forget],vs2,o3⟩
  obtain ⟨nx,hnx⟩ : ∃ nx,nx = (partJ c D k (W.take i)).getD (k + 1) [] := ⟨_,rfl⟩
  have hnx2 : nx = (restAll c D).getD (k + 1) [] := by
    rw [hnx,partJ_next,restAll_at hlast,drop_getD (d := []) hlast]
    rfl
  have hnxl : nx.length = n := by rw [hnx2,restAll_at hlast,restStep_len,hk.row hlast]
  have ex : x = own + bestL (afterL c i 0 nx) := by
    have e1 : W = restRowJ c (D.getD k []) nx := by
      rw [hW,restAll_at hkD,drop_getD (d := []) hlast,hnx2,restAll_at hlast]; rfl
    rw [hx,e1,restG_getD (by omega)]
    unfold restG
    rw [← hown,if_neg ho]
  have hrn := hLT.row (k := k + 1) (by omega)
  rw [← hnx] at hrn
  have hsh := (oJ.row (k + 1) (by omega)).shape
  have hnb : ∀ q,q < nx.length → -1 ≤ nx.getD q 0 ∧ nx.getD q 0 ≤ 1000000000 := fun q hq => by
    have := restAll_ok (c := c) (B := B) hc.1 hB.1 hk (k + 1) hlast q (by omega)
    rw [← hnx2] at this
    have h1 : (B + c) * ((D.length - (k + 1) : Nat) : Int) ≤ 30000000 * 20 := Int.mul_le_mul (by omega) (by omega) (by omega) (by decide)
    omega
  have ern : ((k : Int) + 1).toNat = k + 1 := by omega
  have hb1 := own
  (repeat(first|refine yw ?_|((first|apply yd|apply ye);simp (disch:=first|exact zz|fail) only[go_sem,hrow.len,hrow.idx,hrow.load,← hown,dec_t (show own ≠ -1 from ho),dec_t (show (k : Int) + 1 < (D.length : Int) by omega)];with_reducible rfl)))
  refine cond_t rfl ?_
  (repeat(first|refine yw ?_|((first|apply yd|apply ye);simp (disch:=first|exact zz|fail) only[go_sem,hLT.len,hLT.idx,hLT.load,loadN_at j0,ern];with_reducible rfl)))
  refine adraw_call (after_c (v := v) (dv := dv) (a := a) (b := b) (c := c) (i := i) hv hda hsh) ?_
  obtain ⟨J2,hJ2⟩ : ∃ J2,J2 = J ++ [AObj.cells true 0 [v,.int .i64 a,.int .i64 b,.int .i64 c,dv],AObj.cells true 0 [.int .i64 (i : Int)],AObj.cells true 0 [vs.getD (k + 1) undef]] := ⟨_,rfl⟩
  have q0 : J2[J.length]? = some (.cells true 0 [v,.int .i64 a,.int .i64 b,.int .i64 c,dv]) := by rw [hJ2]; simp
  have q1' : J2[J.length + 1]? = some (.cells true 0 [.int .i64 (i : Int)]) := by rw [hJ2]; simp
  have q2' : J2[J.length + 2]? = some (.cells true 0 [vs.getD (k + 1) undef]) := by rw [hJ2]; simp
  have x2 : Ext J J2 := by rw [hJ2]; exact (Ext.refl J).app _
  have o2 : OwnR A.length J2 (partJ c D k (W.take i)) vs := by rw [hJ2]; exact oJ.app _
  refine Eq.mp (congrArg (fun X => ADraw _ _ _ _ _ X) hJ2) ?_
  have hF : ∀ H',Ext J2 H' → AfFact (J.length + 2) J.length (J.length + 1) (vs.getD (k + 1) undef) v dv a b c i nx H' := fun H' hx => ⟨hx.cell q2',hx.cell q0,hx.cell q1',hrn.ext (x2.trans hx)⟩
  have hgen := after1_c (idn := J.length + 2) (idt := J.length) (idi := J.length + 1) (nv := vs.getD (k + 1) undef) (v := v) (dv := dv) (a := a) (b := b) (c := c) (i := i) (nx := nx) hv hda hc hnb (by omega)
  clear hJ2
  (refine yg ?_)
  (refine adraw_call (N := []) (firstD (best_c hgen hF)) ?_; rw [List.append_nil])
  have hLT2 := o2.lists (n := D.length) (c := D.length) hT.symm
  obtain ⟨v2,H2,H3,vs2,p1,p2,x3,o3⟩ := fin (xJ.trans x2) o2
  (repeat(first|refine yw ?_|((first|apply yd|apply ye);simp (disch:=first|exact zz|fail) only[go_sem,← ex];with_reducible rfl)))
  (repeat(first|refine yw ?_|((first|apply yd|apply ye);simp (disch:=first|exact zz|fail) only[go_sem,hLT2.len,hLT2.idx,hLT2.load,p1,p2];with_reducible rfl)))
  exact ⟨by omega,x3,by simp [forget],vs2,o3⟩
end
end Go.Lq

namespace Go.Lq
open Go
open Go.Proofs
def cmpS (l m : List UInt8) : Int := if Op.bytesLess l m = true then -1 else if (!(Op.bytesLess l m || l == m)) = true then 1 else 0
section
variable {H : AHeap}
theorem lss_b {l m : List UInt8} {H : AHeap} : strOpR .lss (.string (bs l)) (.string (bs m)) H = some (.bool (Op.bytesLess l m),H) := by
  simp only [strOpR,strA,Option.map_some,bs_toList]
theorem gtr_b {l m : List UInt8} {H : AHeap} : strOpR .gtr (.string (bs l)) (.string (bs m)) H = some (.bool (!(Op.bytesLess l m || l == m)),H) := by
  simp only [strOpR,strA,Option.map_some,bs_toList]
theorem isNaNs_c (l : List UInt8) : ACall Go.Proofs.Tryz.prog 58 [.string (bs l)] H fun v H' => v = .bool false ∧ H' = H := by
  (refine a58 ?_; simp only [n58,List.replicate,List.length_cons,List.length_nil,List.cons_append,List.nil_append]; first | refine Go.Lq.q1 ?_ | refine Go.Lq.q2 ?_ | refine Go.Lq.q6 ?_ | refine Go.Lq.q7 ?_ | refine Go.Lq.qh rfl ?_ | skip)
  (repeat(first|refine yw ?_|((first|apply yd|apply ye);simp (disch:=first|exact zz|fail) only[go_sem,dec_f (show ¬ l ≠ l from fun h => h rfl)];with_reducible rfl)))
  exact fin_1 ⟨rfl,rfl⟩
theorem cmpS_c (l m : List UInt8) : ACall Go.Proofs.Tryz.prog 28 [.string (bs l),.string (bs m)] H fun v H' => v = .int .i64 (cmpS l m) ∧ H' = H := by
  (refine a28 ?_; simp only [n28,List.replicate,List.length_cons,List.length_nil,List.cons_append,List.nil_append]; first | refine Go.Lq.q1 ?_ | refine Go.Lq.q2 ?_ | refine Go.Lq.q6 ?_ | refine Go.Lq.q7 ?_ | refine Go.Lq.qh rfl ?_ | skip)
  (refine yg ?_)
  (refine aops_call_to (isNaNs_c l) ?_)
  (refine yg ?_)
  (refine aops_call_to (isNaNs_c m) ?_)
  (refine yg ?_)
  refine cond_f rfl ?_
  (refine yg ?_)
  refine cond_f rfl ?_
  (repeat(first|refine yw ?_|((first|apply yd|apply ye);simp (disch:=first|exact zz|fail) only[go_sem,lss_b];with_reducible rfl)))
  cases h1 : Op.bytesLess l m with
  | true =>
    refine cond_t (by rw [← h1]; rfl) ?_
    (refine yg ?_)
    exact fin_1 ⟨by unfold cmpS; rw [if_pos h1]; rfl,rfl⟩
  | false =>
    refine cond_f (by rw [← h1]; rfl) ?_
    (repeat(first|refine yw ?_|((first|apply yd|apply ye);simp (disch:=first|exact zz|fail) only[go_sem,gtr_b];with_reducible rfl)))
    rw [h1]
    cases h2 : !(false || l == m) with
    | true =>
      refine cond_t rfl ?_
      (refine yg ?_)
      exact fin_1 ⟨by unfold cmpS; rw [h1,if_neg (by decide),h2,if_pos rfl]; rfl,rfl⟩
    | false =>
      refine cond_f rfl ?_
      (refine yg ?_)
      exact fin_1 ⟨by unfold cmpS; rw [h1,if_neg (by decide),h2,if_neg (by decide)]; rfl,rfl⟩
def CmpsAt (H : AHeap) (fv : Value) (n : Nat) (r : Nat → Nat → Int) : Prop := ∀ a b : Nat,a < n → b < n → AInvoke Go.Proofs.Tryz.prog fv [.int .i64 (a : Int),.int .i64 (b : Int)] H fun v H' => v = .int .i64 (r a b) ∧ H' = H
theorem bchoice2_c {id : Nat} {l : List Tr} {us : List Value} {v dv : Value} {x y z : Int} (h0 : H[id]? = some (.cells true 0 [v,.int .i64 x,.int .i64 y,.int .i64 z,dv])) (hT : Trs H l us v) :
    CmpsAt H (.func (.func 27) #[] #[.pointer (some ⟨id,0,none⟩)]) l.length (fun a b => cmpS (l.getD a tr0).nm (l.getD b tr0).nm) := fun a b ha hb => by
  show ACall _ _ _ _ _
  simp only [List.append_nil,List.nil_append,List.cons_append]
  (refine a27 ?_; simp only [n27,List.replicate,List.length_cons,List.length_nil,List.cons_append,List.nil_append]; first | refine Go.Lq.q1 ?_ | refine Go.Lq.q2 ?_ | refine Go.Lq.q6 ?_ | refine Go.Lq.q7 ?_ | refine Go.Lq.qh rfl ?_ | skip)
  (repeat(first|refine yw ?_|((first|apply yd|apply ye);simp (disch:=first|exact zz|fail) only[go_sem,hT.len,hT.idx,hT.load,load_at h0];with_reducible rfl)))
  (refine adraw_call (N := []) (firstD (cmpS_c (l.getD a tr0).nm (l.getD b tr0).nm)) ?_; rw [List.append_nil])
  (refine yg ?_)
  exact fin_1 ⟨rfl,rfl⟩
set_option maxHeartbeats 1000000 in
theorem insSortF_c {H0 : AHeap} {l : List Int} {v fv : Value} {n : Nat} {r : Nat → Nat → Int} (ho : OwnI H0 H l v) (hx : Ext H0 H) (hb : l.length ≤ 1000) (hf : ∀ H',Ext H0 H' → CmpsAt H' fv n r) (hl : ∀ x ∈ l,0 ≤ x ∧ x < n) :
    ACall Go.Proofs.Tryz.prog 75 [v,.int .i64 0,.int .i64 l.length,fv] H fun _ H' => ∃ m,OwnI H0 H' m v ∧ Ext H0 H' ∧ m.Perm l := by
  (refine a75 ?_; simp only [n75,List.replicate,List.length_cons,List.length_nil,List.cons_append,List.nil_append]; first | refine Go.Lq.q1 ?_ | refine Go.Lq.q2 ?_ | refine Go.Lq.q6 ?_ | refine Go.Lq.q7 ?_ | refine Go.Lq.qh rfl ?_ | skip)
  (refine yg ?_)
  refine awp_loop_n [true,true,true,true,false,false,false,false,true,false,false,false,false,false,false,false,false,false,false,false,false,false,false,false,false,false,false,false,false,false,false,false,false,false,false,false,false,false,false,false,false,false,false,false,false,false,false,false,false,false,false,false,false] l.length (fun i e H' => ∃ m,e = [v,.int .i64 0,.int .i64 l.length,fv,junk,junk,junk,junk,.int .i64 ((i + 1 : Nat) : Int),junk,junk,junk,junk,junk,junk,junk,junk,junk,junk,junk,junk,junk,junk,junk,junk,junk,junk,junk,junk,junk,junk,junk,junk,junk,junk,junk,junk,junk,junk,junk,junk,junk,junk,junk,junk,junk,junk,junk,junk,junk,junk,junk,junk] ∧ OwnI H0 H' m v ∧ Ext H0 H' ∧ m.Perm l) ?_ ?_
  · exact ⟨l,by simp [forget],ho,hx,List.Perm.refl _⟩
  rintro i e H1 hi ⟨m,rfl,o1,x1,p1⟩
  (refine yg ?_)
  refine cond_p rfl (fun hlt => ?_) (fun hge => ?_)
  rotate_left 1
  · (refine yg ?_)
    exact ⟨.inl rfl,_,rfl,m,o1,x1,p1⟩
  (refine yg ?_)
  refine awp_loop_n [true,true,true,true,false,false,false,false,true,true,false,false,false,false,false,false,false,false,false,false,false,false,false,false,false,false,false,false,false,false,false,false,false,false,false,false,false,false,false,false,false,false,false,false,false,false,false,false,false,false,false,false,false] (i + 1) (fun k e H' => ∃ m,e = [v,.int .i64 0,.int .i64 l.length,fv,junk,junk,junk,junk,.int .i64 ((i + 1 : Nat) : Int),.int .i64 ((i + 1 - k : Nat) : Int),junk,junk,junk,junk,junk,junk,junk,junk,junk,junk,junk,junk,junk,junk,junk,junk,junk,junk,junk,junk,junk,junk,junk,junk,junk,junk,junk,junk,junk,junk,junk,junk,junk,junk,junk,junk,junk,junk,junk,junk,junk,junk,junk] ∧ OwnI H0 H' m v ∧ Ext H0 H' ∧ m.Perm l) ?_ ?_
  · exact ⟨m,by simp [forget],o1,x1,p1⟩
  clear o1 x1 p1
  clear m
  rintro k e H2 hk ⟨m,rfl,o2,x2,p2⟩
  have ml := p2.length_eq
  have hm := o2.ints
  obtain ⟨j,hj⟩ : ∃ j,j = i + 1 - k := ⟨_,rfl⟩
  rw [← hj]
  cases j with
  | zero =>
    (repeat(first|refine yw ?_|((first|apply yd|apply ye);simp (disch:=first|exact zz|fail) only[go_sem,dec_f (show ¬ (0 : Int) < ((0 : Nat) : Int) by decide)];with_reducible rfl)))
    refine cond_f rfl ?_
    (refine yg ?_)
    exact ⟨by omega,m,by simp [forget],o2,x2,p2⟩
  | succ q =>
    have e1 : ((q + 1 : Nat) : Int) - 1 = (q : Int) := by omega
    have w1 := hl _ (p2.mem_iff.1 (getD_mem (l := m) (i := q + 1) (d := 0) (by omega)))
    have w2 := hl _ (p2.mem_iff.1 (getD_mem (l := m) (i := q) (d := 0) (by omega)))
    have hc := hf H2 x2 (m.getD (q + 1) 0).toNat (m.getD q 0).toNat (by omega) (by omega)
    rw [show (((m.getD (q + 1) 0).toNat : Nat) : Int) = m.getD (q + 1) 0 by omega,show (((m.getD q 0).toNat : Nat) : Int) = m.getD q 0 by omega] at hc
    (repeat(first|refine yw ?_|((first|apply yd|apply ye);simp (disch:=first|exact zz|fail) only[go_sem,hm.len,hm.idx,hm.load,dec_t (show (0 : Int) < ((q + 1 : Nat) : Int) by omega),e1];with_reducible rfl)))
    refine aops_call_to hc ?_
    (refine yg ?_)
    refine cond_p rfl (fun hlt2 => ?_) (fun hge2 => ?_)
    · have s1 := o2.store (k := q + 1) (by omega) (m.getD q 0)
      have o3 := o2.stored (m.set (q + 1) (m.getD q 0)) (by simp)
      have s2 := o3.store (k := q) (by simp; omega) (m.getD (q + 1) 0)
      have o4 := o3.stored ((m.set (q + 1) (m.getD q 0)).set q (m.getD (q + 1) 0)) (by simp)
      have x3 := o3.ext_set (o2.ext_set x2 _) ((m.set (q + 1) (m.getD q 0)).set q (m.getD (q + 1) 0))
      rw [swapA_set q m (by omega)] at s2 o4 x3
      (repeat(first|refine yw ?_|((first|apply yd|apply ye);simp (disch:=first|exact zz|fail) only[go_sem,hm.len,hm.idx,hm.load,e1,s1,s2];with_reducible rfl)))
      exact ⟨by omega,swapA q m,by simp [forget]; omega,o4,x3,(swapA_perm q m).trans p2⟩
    · (refine yg ?_)
      exact ⟨by omega,m,by simp [forget],o2,x2,p2⟩
theorem pdqF_c {H0 : AHeap} {l : List Int} {v fv : Value} {n : Nat} {r : Nat → Nat → Int} {q : Int} (ho : OwnI H0 H l v) (hx : Ext H0 H) (hb : l.length ≤ 12) (hf : ∀ H',Ext H0 H' → CmpsAt H' fv n r) (hl : ∀ x ∈ l,0 ≤ x ∧ x < n) :
    ACall Go.Proofs.Tryz.prog 56 [v,.int .i64 0,.int .i64 l.length,.int .i64 q,fv] H fun _ H' => ∃ m,OwnI H0 H' m v ∧ Ext H0 H' ∧ m.Perm l := by
  (refine a56 ?_; simp only [n56,List.replicate,List.length_cons,List.length_nil,List.cons_append,List.nil_append]; first | refine Go.Lq.q1 ?_ | refine Go.Lq.q2 ?_ | refine Go.Lq.q6 ?_ | refine Go.Lq.q7 ?_ | refine Go.Lq.qh rfl ?_ | skip)
  (refine yg ?_)
  refine awp_loop_n [true,true,true,false,true,false,false,false,false,false,false,false,false,false,false,false,false,false,false,false,false,false,false,false,false,false,false,false,false,false,false,false,false,false,false,false,false,false,false,false,false,false,false,false,false,false,false,false,false,false,false,false,false,false,false,false,false,false,false,false,false,false,false,false,false,false,false,false,false,false,false,false,false,false,false,false,false,false,false,false,false,false,false,false,false,false,false,false,false,false,false,false,false,false,false,false,false,false,false,false,false,false,false,false,false,false,false,false,false,false,false,false,false,false,false,false,false,false,false,false,false,false,false,false,false,false,false,false,false,false,false,false,false,false,false,false,false,false,false,false,false,false,false,false,false,false,false,false] 0 (fun i e H' => H' = H ∧ e = [v,.int .i64 0,.int .i64 l.length,junk,fv,junk,junk,junk,junk,junk,junk,junk,junk,junk,junk,junk,junk,junk,junk,junk,junk,junk,junk,junk,junk,junk,junk,junk,junk,junk,junk,junk,junk,junk,junk,junk,junk,junk,junk,junk,junk,junk,junk,junk,junk,junk,junk,junk,junk,junk,junk,junk,junk,junk,junk,junk,junk,junk,junk,junk,junk,junk,junk,junk,junk,junk,junk,junk,junk,junk,junk,junk,junk,junk,junk,junk,junk,junk,junk,junk,junk,junk,junk,junk,junk,junk,junk,junk,junk,junk,junk,junk,junk,junk,junk,junk,junk,junk,junk,junk,junk,junk,junk,junk,junk,junk,junk,junk,junk,junk,junk,junk,junk,junk,junk,junk,junk,junk,junk,junk,junk,junk,junk,junk,junk,junk,junk,junk,junk,junk,junk,junk,junk,junk,junk,junk,junk,junk,junk,junk,junk,junk,junk,junk,junk,junk,junk,junk]) ?_ ?_
  · exact ⟨rfl,by simp [forget]⟩
  rintro i e H1 _ ⟨rfl,rfl⟩
  (repeat(first|refine yw ?_|((first|apply yd|apply ye);simp (disch:=first|exact zz|fail) only[go_sem,dec_t (show (l.length : Int) - 0 ≤ 12 by omega)];with_reducible rfl)))
  refine cond_t rfl ?_
  (refine yg ?_)
  refine aops_call ((insSortF_c ho hx (by omega) hf hl).mono fun u H2 h => ?_)
  (refine yg ?_)
  exact ⟨.inr rfl,_,rfl,h⟩
theorem sortF_c {H0 : AHeap} {l : List Int} {v fv : Value} {n : Nat} {r : Nat → Nat → Int} (ho : OwnI H0 H l v) (hx : Ext H0 H) (h0 : 0 < l.length) (hb : l.length ≤ 12) (hf : ∀ H',Ext H0 H' → CmpsAt H' fv n r) (hl : ∀ x ∈ l,0 ≤ x ∧ x < n) :
    ACall Go.Proofs.Tryz.prog 26 [v,fv] H fun _ H' => ∃ m,OwnI H0 H' m v ∧ Ext H0 H' ∧ m.Perm l := by
  have hli := ho.ints
  (refine a26 ?_; simp only [n26,List.replicate,List.length_cons,List.length_nil,List.cons_append,List.nil_append]; first | refine Go.Lq.q1 ?_ | refine Go.Lq.q2 ?_ | refine Go.Lq.q6 ?_ | refine Go.Lq.q7 ?_ | refine Go.Lq.qh rfl ?_ | skip)
  (repeat(first|refine yw ?_|((first|apply yd|apply ye);simp (disch:=first|exact zz|fail) only[go_sem,hli.len,hli.idx,hli.load];with_reducible rfl)))
  refine aops_call ((len_c (x := l.length) (by omega)).mono fun u H2 ⟨h1,n,h2⟩ => ?_)
  subst h1
  subst h2
  (refine yg ?_)
  refine aops_call ((pdqF_c ho hx hb hf hl).mono fun u H2 h => ?_)
  (refine yg ?_)
  exact ⟨.inl rfl,_,rfl,h⟩
end
end Go.Lq

namespace Go.Lq
open Go
open Go.Proofs
theorem task_P {l : List Tr} {N P : Nat} {c : Int} (hk : TaskOk l N P c) : P ≤ 200 := by
  have h1 := hk.N1.1
  have h2 := hk.len
  have := Nat.mul_le_mul_right P h1
  omega
theorem devTab_ok {l : List Tr} {N P : Nat} {c : Int} (hk : TaskOk l N P c) : TabOk (devTab l P N) l.length 13106800 := by
  have hP := task_P hk
  have key : ∀ r ∈ devTab l P N,∃ k,k < N ∧ r = dRow l P k := fun r hr => by
    obtain ⟨k,hk1,rfl⟩ := List.mem_map.1 hr
    exact ⟨k,List.mem_range.1 hk1,rfl⟩
  refine ⟨fun r hr => ?_,fun r hr x hx => ?_,fun r hr => ?_⟩
  · obtain ⟨k,_,rfl⟩ := key r hr
    exact dRow_len l P k
  · obtain ⟨k,_,rfl⟩ := key r hr
    obtain ⟨t,ht,rfl⟩ := List.mem_map.1 hx
    rcases devE_bound hk.trs (ok_mem hk.trs ht) (P := P) (k := k) hP with h | ⟨h1,h2⟩
    · exact .inl h
    · exact .inr ⟨h1,by omega⟩
  · obtain ⟨k,hk1,rfl⟩ := key r hr
    obtain ⟨i,hi,hc⟩ := hk.gap k hk1
    refine ⟨devE l P k (l.getD i tr0),List.mem_map.2 ⟨_,getD_mem hi,rfl⟩,(devE_ne hk.trs (hk.trs.ok i hi) hP).2 hc⟩
def idL (n : Nat) : List Int := (List.range n).map fun j : Nat => (j : Int)
theorem idL_succ (n : Nat) : idL (n + 1) = idL n ++ [(n : Int)] := by simp [idL,List.range_succ]
theorem idL_len (n : Nat) : (idL n).length = n := by simp [idL]
theorem mem_idL {n : Nat} {x : Int} : x ∈ idL n ↔ ∃ j : Nat,j < n ∧ x = (j : Int) := by
  unfold idL
  rw [List.mem_map]
  exact ⟨fun ⟨j,h1,h2⟩ => ⟨j,List.mem_range.1 h1,h2.symm⟩,fun ⟨j,h1,h2⟩ => ⟨j,List.mem_range.2 h1,h2.symm⟩⟩
def namesT (l : List Tr) (a : List Nat) : List (List UInt8) := a.map fun i => (l.getD i tr0).nm
def befI (p : Option Nat) : Int := match p with | none => -1 | some j => (j : Int)
section
variable {H : AHeap}
set_option maxRecDepth 100000 in
set_option maxHeartbeats 8000000 in
theorem bchoice_c {l : List Tr} {us : List Value} {v : Value} {N P : Nat} {c : Int} (hT : Trs H l us v) (hk : TaskOk l N P c) :
    ACall Go.Proofs.Tryz.prog 8 [.agg ⟨[v,.int .i64 ((N * P : Nat) : Int),.int .i64 (P : Int),.int .i64 c]⟩] H fun w H' => ∃ (a : List Nat) (sv : Value),w = .tuple #[sv,.int .i64 (costC c none (devTab l P N) a),.int .i64 0] ∧ Txts H' (namesT l a) sv ∧ Ext H H' ∧ LeastC c (devTab l P N) a := by
  have ha := hT.atom
  have hD := devTab_ok hk
  have hDl := devTab_len l P N
  obtain ⟨D,hDe⟩ : ∃ D,D = devTab l P N := ⟨_,rfl⟩
  have ho := hk.trs
  obtain ⟨n1,n2⟩ := ho.len
  obtain ⟨hN1,hN2⟩ := hk.N1
  obtain ⟨hc1,hc2⟩ := hk.chg
  have hB : (0 : Int) ≤ 13106800 := by decide
  obtain ⟨L,hL⟩ : ∃ L,N * P = L := ⟨_,rfl⟩
  have hjo := fun (G : AHeap) (hG : Ext H G) => jopen_c (hT.ext hG) hk
  rw [← hDe] at hD hDl ⊢
  simp only [← hDe] at hjo
  rw [hL] at hjo ⊢
  (refine a8 ?_; simp only [n8,List.replicate,List.length_cons,List.length_nil,List.cons_append,List.nil_append]; first | refine Go.Lq.q1 ?_ | refine Go.Lq.q2 ?_ | refine Go.Lq.q6 ?_ | refine Go.Lq.q7 ?_ | refine Go.Lq.qh rfl ?_ | skip)
  obtain ⟨A,hA⟩ : ∃ A,A = H ++ [AObj.cells true 0 [v,.int .i64 (L : Int),.int .i64 (P : Int),.int .i64 c]] := ⟨_,rfl⟩
  have a0 : A[H.length]? = some (.cells true 0 [v,.int .i64 (L : Int),.int .i64 (P : Int),.int .i64 c]) := by rw [hA]; exact at_new
  have xA : Ext H A := by rw [hA]; exact (Ext.refl H).app _
  (repeat(first|refine yw ?_|((first|apply yd|apply ye);simp (disch:=first|exact zz|fail) only[go_sem,box_tk ha];with_reducible rfl)))
  rw [← hA]
  clear hA
  (repeat(first|refine yw ?_|((first|apply yd|apply ye);simp (disch:=first|exact zz|fail) only[go_sem,loadN_at a0];with_reducible rfl)))
  refine aops_call ((hjo A xA).mono fun w H1 ⟨dv,ew,oD,x1⟩ => ?_)
  subst ew
  obtain ⟨d1,d2,d3,rfl⟩ := oD.shape
  obtain ⟨ds,hDL⟩ := oD.lists
  have st5 : ∀ (J : AHeap) (a1 a2 a3 a4 a5 : Value),storeR 5 (.pointer (some ⟨J.length,0,none⟩)) (.agg ⟨[v,.int .i64 (L : Int),.int .i64 (P : Int),.int .i64 c,.slice d1 d2 d3]⟩) (J ++ [.cells true 0 [a1,a2,a3,a4,a5]]) = some (undef,J ++ [.cells true 0 [v,.int .i64 (L : Int),.int .i64 (P : Int),.int .i64 c,.slice d1 d2 d3]]) := fun J a1 a2 a3 a4 a5 =>
    store_new (us := [v,.int .i64 (L : Int),.int .i64 (P : Int),.int .i64 c,.slice d1 d2 d3]) (by simp [ha,isAtom_int,isAtom_slice]) rfl
  (repeat(first|refine yw ?_|((first|apply yd|apply ye);simp (disch:=first|exact zz|fail) only[go_sem,st5];with_reducible rfl)))
  obtain ⟨G,hG⟩ : ∃ G,G = H1 ++ [AObj.cells true 0 [v,.int .i64 (L : Int),.int .i64 (P : Int),.int .i64 c,.slice d1 d2 d3]] := ⟨_,rfl⟩
  obtain ⟨ix,hix⟩ : ∃ ix,ix = H1.length := ⟨_,rfl⟩
  have g0 : G[ix]? = some (.cells true 0 [v,.int .i64 (L : Int),.int .i64 (P : Int),.int .i64 c,.slice d1 d2 d3]) := by rw [hG,hix]; exact at_new
  have xG : Ext H1 G := by rw [hG]; exact (Ext.refl H1).app _
  rw [← hG,← hix]
  clear hG hix
  have xHG := xA.trans (x1.trans xG)
  (refine yg ?_)
  refine cond_f rfl ?_
  (repeat(first|refine yw ?_|((first|apply yd|apply ye);simp (disch:=first|exact zz|fail) only[go_sem,loadN_at g0];with_reducible rfl)))
  refine aops_call ((jrest_c (B := 13106800) ha (hDL.ext xG) hD ⟨n1,n2⟩ (by omega) (by omega) (by omega)).mono fun rv H2 ⟨oR,x2⟩ => ?_)
  obtain ⟨r1,r2,r3,rfl⟩ := oR.shape
  obtain ⟨rs,hRL⟩ := oR.lists
  have st1 : storeR 1 (.pointer (some ⟨H2.length,0,none⟩)) (.slice r1 r2 r3) (H2 ++ [.cells true 0 [.slice none 0 0]]) = some (undef,H2 ++ [.cells true 0 [.slice r1 r2 r3]]) := by
    rw [store_pj at_new (by simp) rfl rfl]; simp
  (repeat(first|refine yw ?_|((first|apply yd|apply ye);simp (disch:=first|exact zz|fail) only[go_sem,st1];with_reducible rfl)))
  obtain ⟨K,hK⟩ : ∃ K,K = H2 ++ [AObj.cells true 0 [.slice r1 r2 r3]] := ⟨_,rfl⟩
  obtain ⟨ir,hir⟩ : ∃ ir,ir = H2.length := ⟨_,rfl⟩
  have k0 : K[ir]? = some (.cells true 0 [.slice r1 r2 r3]) := by rw [hK,hir]; exact at_new
  have xK : Ext H2 K := by rw [hK]; exact (Ext.refl H2).app _
  rw [← hK,← hir]
  clear hK hir
  have xGK := x2.trans xK
  have kx := xGK.cell g0
  have hTK := hT.ext (xHG.trans xGK)
  have hDK := hDL.ext (xG.trans xGK)
  have hRK := hRL.ext xK
  have hR0 : 0 < (restAll c D).length := by rw [restAll_len]; omega
  have hRrow : ∀ k,k < D.length → ((restAll c D).getD k []).length = l.length := fun k h => by rw [restAll_at h,restStep_len,hD.row h]
  have hbe := best_c (H := K) (bchoice1_c (id := ir) (rv := .slice r1 r2 r3) (v := v) (rs := restAll c D) (us := rs) hR0 (by rw [hRrow 0 (by omega)]; omega)) fun H' hx => ⟨hx.cell k0,hRK.ext hx⟩
  have etot : bestL (someL ((restAll c D).getD 0 [])) = leftC c D 0 none := by unfold leftC; rw [if_pos (by omega)]; rfl
  rw [etot] at hbe
  obtain ⟨tot,htot⟩ : ∃ tot,tot = leftC c D 0 none := ⟨_,rfl⟩
  rw [← htot] at hbe
  (refine yg ?_)
  (refine aops_call_to (hbe) ?_)
  (repeat(first|refine yw ?_|((first|apply yd|apply ye);simp (disch:=first|exact zz|fail) only[go_sem,hTK.len,hTK.idx,hTK.load,load_at kx];with_reducible rfl)))
  refine awp_loop_n [false,false,false,false,false,true,false,true,true,true,false,false,false,false,false,false,false,false,false,false,false,false,false,false,false,false,false,false,false,false,false,false,false,false,true,true,false,false,false,false,false,false,false,false,false,false,false,false,false,false,false,false,false,false,false,false,false,false,false,false,false,false,false,false,false,false,false,false,false,false,false,false,false,false,false,false,false,false,false,false,false,false,false,false,false,false,false,false,false,false,false,false,false,false,false,false,false,false,false,false,false,false,false,false,false,false,false,false,false] l.length (fun i e J => ∃ bv,e = [junk,junk,junk,junk,junk,.pointer (some ⟨ix,0,none⟩),junk,.pointer (some ⟨ir,0,none⟩),.int .i64 tot,bv,junk,junk,junk,junk,junk,junk,junk,junk,junk,junk,junk,junk,junk,junk,junk,junk,junk,junk,junk,junk,junk,junk,junk,junk,.int .i64 l.length,.int .i64 (i : Int),junk,junk,junk,junk,junk,junk,junk,junk,junk,junk,junk,junk,junk,junk,junk,junk,junk,junk,junk,junk,junk,junk,junk,junk,junk,junk,junk,junk,junk,junk,junk,junk,junk,junk,junk,junk,junk,junk,junk,junk,junk,junk,junk,junk,junk,junk,junk,junk,junk,junk,junk,junk,junk,junk,junk,junk,junk,junk,junk,junk,junk,junk,junk,junk,junk,junk,junk,junk,junk,junk,junk,junk,junk] ∧ OwnI K J (idL i) bv ∧ Ext K J) ?_ ?_
  · exact ⟨.slice none 0 0,by simp [forget],by simp [idL]; exact OwnI.nil _ _,Ext.refl _⟩
  rintro i e J hi ⟨bv,rfl,oJ,xJ⟩
  (refine yg ?_)
  refine cond_p rfl (fun hlt => ?_) (fun hge => ?_)
  · have hpu := oJ.push (by rw [idL_len]; omega) (i : Int)
    have oP := oJ.pushed xJ (i : Int)
    have xP := oJ.ext xJ (i : Int)
    rw [← idL_succ] at oP
    (repeat(first|refine yw ?_|((first|apply yd|apply ye);simp (disch:=first|exact zz|fail) only[go_sem,hpu];with_reducible rfl)))
    exact ⟨by omega,_,by simp [forget],oP,xP⟩
  obtain rfl : i = l.length := by omega
  have hso := sortF_c (n := l.length) (r := fun a b => cmpS (l.getD a tr0).nm (l.getD b tr0).nm) oJ xJ (by rw [idL_len]; omega) (by rw [idL_len]; omega) (fun H' hx => bchoice2_c (id := ix) (hx.cell kx) (hTK.ext hx)) (fun x hx => by
    obtain ⟨j,h1,rfl⟩ := mem_idL.1 hx
    omega)
  (refine yg ?_)
  refine aops_call (hso.mono fun u K2 ⟨m,oM,xM,pM⟩ => ?_)
  have ml := pM.length_eq
  rw [idL_len] at ml
  have mx := xM.cell kx
  have mr := xM.cell k0
  have hM := oM.ints
  have hRM := hRK.ext xM
  have hRlen : ((restAll c D).length : Int) = (D.length : Int) := by rw [restAll_len]
  (repeat(first|refine yw ?_|((first|apply yd|apply ye);simp (disch:=first|exact zz|fail) only[go_sem,hRM.len,hRM.idx,hRM.load,load_at mr,hRlen];with_reducible rfl)))
  have init := ChoS.start c D
  rw [← htot] at init
  refine awp_loop_n [false,false,false,false,false,true,false,false,true,true,false,true,true,true,false,false,false,false,false,false,false,false,false,false,false,false,false,false,false,false,false,false,false,false,false,false,false,false,false,false,false,false,false,false,false,false,false,true,true,true,false,false,false,false,false,false,false,false,false,false,false,false,false,false,false,false,false,false,false,false,false,false,false,false,false,false,false,false,false,false,false,false,false,false,false,false,false,false,false,false,false,false,false,false,false,false,false,false,false,false,false,false,false,false,false,false,false,false,false] D.length (fun k e J => ∃ a left nv,e = [junk,junk,junk,junk,junk,.pointer (some ⟨ix,0,none⟩),junk,junk,.int .i64 tot,bv,junk,nv,.int .i64 left,.int .i64 (befI a.getLast?),junk,junk,junk,junk,junk,junk,junk,junk,junk,junk,junk,junk,junk,junk,junk,junk,junk,junk,junk,junk,junk,junk,junk,junk,junk,junk,junk,junk,junk,junk,junk,junk,junk,.slice r1 r2 r3,.int .i64 (D.length : Nat),.int .i64 (k : Int),junk,junk,junk,junk,junk,junk,junk,junk,junk,junk,junk,junk,junk,junk,junk,junk,junk,junk,junk,junk,junk,junk,junk,junk,junk,junk,junk,junk,junk,junk,junk,junk,junk,junk,junk,junk,junk,junk,junk,junk,junk,junk,junk,junk,junk,junk,junk,junk,junk,junk,junk,junk,junk,junk,junk,junk,junk,junk,junk] ∧ ChoS c D k a left ∧ OwnS K2 J (namesT l a) nv ∧ Ext K2 J) ?_ ?_
  · exact ⟨[],tot,.slice none 0 0,by simp [forget,befI],init,OwnS.nil _ _,Ext.refl _⟩
  clear hso oJ xJ
  clear J
  rintro k e J hk2 ⟨a,left,nv,rfl,hS,oJ,xJ⟩
  (refine yg ?_)
  refine cond_p rfl (fun hlt => ?_) (fun hge => ?_)
  rotate_left 1
  · obtain rfl : k = D.length := by omega
    obtain ⟨e1,e2⟩ := hS.done hc1 hB hD (by omega)
    (refine yg ?_)
    exact fin_3 ⟨a,nv,by rw [e2,← htot]; rfl,oJ.txts,xHG.trans (xGK.trans (xM.trans xJ)),e1⟩
  have hkD : k < D.length := by omega
  have hRJ := hRM.ext xJ
  have hMJ := hM.ext xJ
  have hrow := hRJ.row (k := k) (by rw [restAll_len]; exact hkD)
  have hrl := hRrow k hkD
  have jx := xJ.cell mx
  have hTJ := hTK.ext (xM.trans xJ)
  have hDJ := hDK.ext (xM.trans xJ)
  have hdrow := hDJ.row hkD
  have hdl := hD.row hkD
  have hal : a.length = k := by have := validC_len hS.valid; rw [List.length_take] at this; omega
  (repeat(first|refine yw ?_|((first|apply yd|apply ye);simp (disch:=first|exact zz|fail) only[go_sem,hRJ.len,hRJ.idx,hRJ.load,hMJ.len,hMJ.idx,hMJ.load];with_reducible rfl)))
  refine awp_loop_n [false,false,false,false,false,true,false,false,true,true,false,true,true,true,true,true,false,false,false,false,false,false,false,false,false,false,false,false,false,false,false,false,false,false,false,false,false,false,false,false,false,false,false,false,false,false,false,true,true,true,false,false,false,false,true,true,true,false,false,false,false,false,false,false,false,false,false,false,false,false,false,false,false,false,false,false,false,false,false,false,false,false,false,false,false,false,false,false,false,false,false,false,false,false,false,false,false,false,false,false,false,false,false,false,false,false,false,false,false] m.length (fun q e J' => J = J' ∧ e = [junk,junk,junk,junk,junk,.pointer (some ⟨ix,0,none⟩),junk,junk,.int .i64 tot,bv,junk,nv,.int .i64 left,.int .i64 (befI a.getLast?),.int .i64 (k : Int),rs.getD k undef,junk,junk,junk,junk,junk,junk,junk,junk,junk,junk,junk,junk,junk,junk,junk,junk,junk,junk,junk,junk,junk,junk,junk,junk,junk,junk,junk,junk,junk,junk,junk,.slice r1 r2 r3,.int .i64 (D.length : Nat),.int .i64 (k : Int),junk,junk,junk,junk,bv,.int .i64 m.length,.int .i64 (q : Int),junk,junk,junk,junk,junk,junk,junk,junk,junk,junk,junk,junk,junk,junk,junk,junk,junk,junk,junk,junk,junk,junk,junk,junk,junk,junk,junk,junk,junk,junk,junk,junk,junk,junk,junk,junk,junk,junk,junk,junk,junk,junk,junk,junk,junk,junk,junk,junk,junk,junk,junk,junk] ∧
      ∀ q' : Nat,q' < q → ¬ (((restAll c D).getD k []).getD (m.getD q' 0).toNat 0 ≠ -1 ∧ chgC c a.getLast? (m.getD q' 0).toNat + ((restAll c D).getD k []).getD (m.getD q' 0).toNat 0 = left)) ?_ ?_
  · exact ⟨rfl,by simp [forget],fun q' h => by omega⟩
  rintro q e J' hq ⟨rfl,rfl,hno⟩
  (refine yg ?_)
  refine cond_p rfl (fun hlt2 => ?_) (fun hge2 => ?_)
  rotate_left 1
  · exfalso
    obtain ⟨i,hi1,hi2,hi3⟩ := hS.goes hc1 hB hD hkD
    have him : (i : Int) ∈ m := pM.mem_iff.2 (mem_idL.2 ⟨i,hi1,rfl⟩)
    obtain ⟨q',hq',eq'⟩ := List.getElem_of_mem him
    have e2 : m.getD q' 0 = (i : Int) := by rw [List.getD_eq_getElem?_getD,List.getElem?_eq_getElem hq',Option.getD_some,eq']
    have := hno q' (by omega)
    rw [e2,Int.toNat_natCast] at this
    exact this ⟨hi2,hi3⟩
  have hq' : q < m.length := by omega
  obtain ⟨i,hi1,hi2⟩ := mem_idL.1 (pM.mem_iff.1 (getD_mem (l := m) (i := q) (d := 0) hq'))
  obtain ⟨x,hx⟩ : ∃ x,x = ((restAll c D).getD k []).getD i 0 := ⟨_,rfl⟩
  have hok := restAll_ok hc1 hB hD k hkD i hi1
  rw [← hx] at hok
  have hxb : x ≤ 600000000 := by
    have h1 : ((13106800 : Int) + c) * ((D.length - k : Nat) : Int) ≤ 30000000 * 20 := Int.mul_le_mul (by omega) (by omega) (by omega) (by decide)
    omega
  have hit : (m.getD q 0).toNat = i := by rw [hi2]; omega
  have hcb : 0 ≤ chgC c a.getLast? i ∧ chgC c a.getLast? i ≤ 1000000 := ⟨chgC_nonneg hc1 _ _,by cases a.getLast? with
    | none => simp [chgC]
    | some j => simp only [chgC]; split <;> omega⟩
  have hnext : ¬ (x ≠ -1 ∧ chgC c a.getLast? i + x = left) → ∀ q' : Nat,q' < q + 1 → ¬ (((restAll c D).getD k []).getD (m.getD q' 0).toNat 0 ≠ -1 ∧ chgC c a.getLast? (m.getD q' 0).toNat + ((restAll c D).getD k []).getD (m.getD q' 0).toNat 0 = left) := fun hn q' hq2 => by
    by_cases e : q' = q
    · subst e; rw [hit,← hx]; exact hn
    · exact hno q' (by omega)
  (repeat(first|refine yw ?_|((first|apply yd|apply ye);simp (disch:=first|exact zz|fail) only[go_sem,hMJ.len,hMJ.idx,hMJ.load,hi2];with_reducible rfl)))
  refine awp_mid [false,false,false,false,false,true,false,false,true,true,false,true,true,true,true,true,false,true,true,false,false,false,false,false,false,false,false,false,false,false,false,false,false,false,false,false,false,false,false,false,false,false,false,false,false,false,false,true,true,true,false,false,false,false,true,true,true,false,false,false,false,false,false,false,false,false,false,false,false,false,false,false,false,false,false,false,false,false,false,false,false,false,false,false,false,false,false,false,false,false,false,false,false,false,false,false,false,false,false,false,false,false,false,false,false,false,false,false,false] (fun e J' => J = J' ∧ e = [junk,junk,junk,junk,junk,.pointer (some ⟨ix,0,none⟩),junk,junk,.int .i64 tot,bv,junk,nv,.int .i64 left,.int .i64 (befI a.getLast?),.int .i64 (k : Int),rs.getD k undef,junk,.int .i64 (i : Int),.int .i64 (chgC c a.getLast? i),junk,junk,junk,junk,junk,junk,junk,junk,junk,junk,junk,junk,junk,junk,junk,junk,junk,junk,junk,junk,junk,junk,junk,junk,junk,junk,junk,junk,.slice r1 r2 r3,.int .i64 (D.length : Nat),.int .i64 (k : Int),junk,junk,junk,junk,bv,.int .i64 m.length,.int .i64 (q : Int),junk,junk,junk,junk,junk,junk,junk,junk,junk,junk,junk,junk,junk,junk,junk,junk,junk,junk,junk,junk,junk,junk,junk,junk,junk,junk,junk,junk,junk,junk,junk,junk,junk,junk,junk,junk,junk,junk,junk,junk,junk,junk,junk,junk,junk,junk,junk,junk,junk,junk,junk,junk]) ?_ ?_
  · refine cond_p rfl (fun h1 => ?_) (fun h1 => ?_)
    · obtain ⟨j,hj⟩ : ∃ j,a.getLast? = some j := by
        cases h : a.getLast? with
        | none => rw [h] at h1; exact absurd rfl h1
        | some j => exact ⟨j,rfl⟩
      rw [show befI a.getLast? = (j : Int) by rw [hj]; rfl]
      (repeat(first|refine yw ?_|((first|apply yd|apply ye);simp (disch:=first|exact zz|fail) only[go_sem,loadN_at jx];with_reducible rfl)))
      refine aops_call_to (change_c (i := j) (j := i) ha rfl) ?_
      (refine yg ?_)
      exact ⟨rfl,rfl,by simp [forget,hj,chgC_some]⟩
    · have hj : a.getLast? = none := by
        cases h : a.getLast? with
        | none => rfl
        | some j => rw [h] at h1; exfalso; apply h1; show (j : Int) ≠ -1; omega
      (refine yg ?_)
      exact ⟨rfl,rfl,by simp [forget,hj,chgC]⟩
  rintro e J' ⟨rfl,rfl⟩
  have hii : ((i : Int)).toNat = i := Int.toNat_natCast i
  by_cases hx1 : x = -1
  · (repeat(first|refine yw ?_|((first|apply yd|apply ye);simp (disch:=first|exact zz|fail) only[go_sem,hrow.len,hrow.idx,hrow.load,← hx,dec_t hx1];with_reducible rfl)))
    refine cond_t rfl ?_
    (refine yg ?_)
    exact ⟨by omega,rfl,by simp [forget],hnext fun h => h.1 hx1⟩
  by_cases hx2 : chgC c a.getLast? i + x = left
  rotate_left 1
  · (repeat(first|refine yw ?_|((first|apply yd|apply ye);simp (disch:=first|exact zz|fail) only[go_sem,hrow.len,hrow.idx,hrow.load,← hx,dec_f hx1,dec_t (show chgC c a.getLast? i + x ≠ left from hx2)];with_reducible rfl)))
    refine cond_t rfl ?_
    (refine yg ?_)
    exact ⟨by omega,rfl,by simp [forget],hnext fun h => hx2 h.2⟩
  (repeat(first|refine yw ?_|((first|apply yd|apply ye);simp (disch:=first|exact zz|fail) only[go_sem,hrow.len,hrow.idx,hrow.load,← hx,dec_f hx1,dec_f (show ¬ chgC c a.getLast? i + x ≠ left from fun h => h hx2)];with_reducible rfl)))
  refine cond_f rfl ?_
  have hpu := oJ.push (by unfold namesT; rw [List.length_map]; omega) (l.getD i tr0).nm
  have oP := oJ.pushed xJ (l.getD i tr0).nm
  have xP := oJ.ext xJ (l.getD i tr0).nm
  rw [show namesT l a ++ [(l.getD i tr0).nm] = namesT l (a ++ [i]) by simp [namesT]] at oP
  (repeat(first|refine yw ?_|((first|apply yd|apply ye);simp (disch:=first|exact zz|fail) only[go_sem,hTJ.len,hTJ.idx,hTJ.load,load_at jx,hpu];with_reducible rfl)))
  have hSn := hS.step hc1 hB hD hkD hi1 (by rw [← hx]; exact hx1) (by rw [← hx]; exact hx2)
  rw [← hx] at hSn
  obtain ⟨J3,hJ3⟩ : ∃ J3,J3 = pushHS J nv (namesT l a) (l.getD i tr0).nm := ⟨_,rfl⟩
  rw [← hJ3] at oP xP ⊢
  have px := xP.cell mx
  have hrow3 := (hRM.ext xP).row (k := k) (by rw [restAll_len]; exact hkD)
  have hD3 := hDK.ext (xM.trans xP)
  have hdrow3 := hD3.row hkD
  have hdi := hD.at hkD hi1
  (repeat(first|refine yw ?_|((first|apply yd|apply ye);simp (disch:=first|exact zz|fail) only[go_sem,hrow3.len,hrow3.idx,hrow3.load,hD3.len,hD3.idx,hD3.load,hdrow3.len,hdrow3.idx,hdrow3.load,load_at px,← hx];with_reducible rfl)))
  exact ⟨by omega,a ++ [i],_,_,by simp [forget,befI],hSn,oP,xP⟩
end
end Go.Lq

namespace Go.Lq
open Go
def priceR (c : Int) (D : List (List Int)) : Nat → List Int
  | 0 => (D.getD 0 []).map fun x => if x = -1 then 0 else x
  | k + 1 => (List.range (D.getD (k + 1) []).length).map fun j => if (D.getD (k + 1) []).getD j 0 = -1 then 0 else (D.getD (k + 1) []).getD j 0 + bestL (beforeL c j 0 (D.getD k []) (priceR c D k))
def priceT (c : Int) (D : List (List Int)) (k : Nat) : List (List Int) := (List.range k).map (priceR c D)
theorem priceT_succ (c : Int) (D : List (List Int)) (k : Nat) : priceT c D (k + 1) = priceT c D k ++ [priceR c D k] := by simp [priceT,List.range_succ]
theorem priceT_len (c : Int) (D : List (List Int)) (k : Nat) : (priceT c D k).length = k := by simp [priceT]
theorem priceT_at {c : Int} {D : List (List Int)} {k m : Nat} (h : k < m) : (priceT c D m).getD k [] = priceR c D k := by
  unfold priceT
  rw [List.getD_eq_getElem?_getD,List.getElem?_map,List.getElem?_range h]; rfl
theorem priceR_len (c : Int) (D : List (List Int)) (k : Nat) : (priceR c D k).length = (D.getD k []).length := by cases k <;> simp [priceR]
theorem priceR_zero {c : Int} {D : List (List Int)} {j : Nat} (hj : j < (D.getD 0 []).length) : (priceR c D 0).getD j 0 = if (D.getD 0 []).getD j 0 = -1 then 0 else (D.getD 0 []).getD j 0 := by
  unfold priceR
  simp only [List.getD_eq_getElem?_getD,List.getElem?_map] at hj ⊢
  rw [List.getElem?_eq_getElem hj]
  rfl
theorem priceR_succ {c : Int} {D : List (List Int)} {k j : Nat} (hj : j < (D.getD (k + 1) []).length) : (priceR c D (k + 1)).getD j 0 = if (D.getD (k + 1) []).getD j 0 = -1 then 0 else (D.getD (k + 1) []).getD j 0 + bestL (beforeL c j 0 (D.getD k []) (priceR c D k)) := by
  show ((List.range (D.getD (k + 1) []).length).map _).getD j 0 = _
  rw [List.getD_eq_getElem?_getD,List.getElem?_map,List.getElem?_range hj]; rfl
theorem priceR_never {c : Int} {D : List (List Int)} {k j : Nat} (hj : j < (D.getD k []).length) (h : (D.getD k []).getD j 0 = -1) : (priceR c D k).getD j 0 = 0 := by
  cases k with
  | zero => rw [priceR_zero hj,if_pos h]
  | succ k => rw [priceR_succ hj,if_pos h]
theorem take_snocD {D : List (List Int)} {k : Nat} (hk : k < D.length) : D.take (k + 1) = D.take k ++ [D.getD k []] := by
  rw [List.take_add_one,List.getElem?_eq_getElem hk,List.getD_eq_getElem?_getD,List.getElem?_eq_getElem hk]; rfl
theorem costC_bound {c B : Int} {n : Nat} (hc : 0 ≤ c) (hB : 0 ≤ B) : ∀ {D : List (List Int)},TabOk D n B → ∀ {p : Option Nat} {x : List Nat},ValidC D x → 0 ≤ costC c p D x ∧ costC c p D x ≤ (B + c) * (D.length : Int)
  | [],_,p,x,h => by cases h; simp [costC]
  | r :: rs,hD,p,[],h => h.elim
  | r :: rs,hD,p,i :: x,h => by
    obtain ⟨h1,h2,h3⟩ := h
    have ih := costC_bound hc hB hD.tail (p := some i) h3
    have hr := hD.val r (List.mem_cons_self ..) _ (getD_mem (l := r) (d := 0) h1)
    have hg := chgC_nonneg hc p i
    have hg2 : chgC c p i ≤ c := by
      cases p with
      | none => simp [chgC]; exact hc
      | some j => simp only [chgC]; split <;> omega
    simp only [costC,List.length_cons]
    rw [Int.natCast_add,Int.mul_add]
    simp only [Int.natCast_one,Int.mul_one]
    rcases hr with hr | hr
    · exact absurd hr h2
    · omega
theorem price_spec {c B : Int} {n : Nat} {D : List (List Int)} (hc : 0 ≤ c) (hB : 0 ≤ B) (hD : TabOk D n B) : ∀ k,k < D.length → ∀ j,j < n → (D.getD k []).getD j 0 ≠ -1 →
    (∃ x,ValidC (D.take (k + 1)) (x ++ [j]) ∧ costC c none (D.take (k + 1)) (x ++ [j]) = (priceR c D k).getD j 0) ∧ ∀ x,ValidC (D.take (k + 1)) (x ++ [j]) → (priceR c D k).getD j 0 ≤ costC c none (D.take (k + 1)) (x ++ [j])
  | 0,hk,j,hj,hne => by
    have hl : (D.getD 0 []).length = n := hD.row hk
    have e := priceR_zero (c := c) (D := D) (j := j) (by omega)
    rw [if_neg hne] at e
    have et := take_snocD hk
    rw [List.take_zero,List.nil_append] at et
    rw [et,e]
    refine ⟨⟨[],⟨by omega,hne,rfl⟩,by simp [costC,chgC]⟩,fun x hx => ?_⟩
    obtain ⟨xs,i,e1,e2,_⟩ := validC_init (rs := []) hx
    cases e2
    have : x = [] ∧ j = i := by
      cases x with
      | nil => simp at e1; exact ⟨rfl,e1⟩
      | cons a x => simp at e1
    obtain ⟨rfl,rfl⟩ := this
    simp [costC,chgC]
  | k + 1,hk,j,hj,hne => by
    have hl : (D.getD (k + 1) []).length = n := hD.row hk
    have hl0 : (D.getD k []).length = n := hD.row (by omega)
    have hpl : (priceR c D k).length = n := by rw [priceR_len]; exact hl0
    have e := priceR_succ (c := c) (D := D) (k := k) (j := j) (by omega)
    rw [if_neg hne] at e
    have et := take_snocD hk
    have ih := price_spec hc hB hD k (by omega)
    have hitem : ∀ m ∈ beforeL c j 0 (D.getD k []) (priceR c D k),0 ≤ m := fun m hm => by
      obtain ⟨i,h1,h2,rfl⟩ := (mem_beforeL (by omega)).1 hm
      obtain ⟨⟨x,hx1,hx2⟩,_⟩ := ih i (by omega) h2
      have hb := (costC_bound (p := none) hc hB (D := D.take (k + 1)) ⟨fun r hr => hD.len r (List.mem_of_mem_take hr),fun r hr => hD.val r (List.mem_of_mem_take hr),fun r hr => hD.some r (List.mem_of_mem_take hr)⟩ hx1).1
      have : 0 ≤ chgN c (0 + i) j := by unfold chgN; split <;> omega
      omega
    have hne2 : beforeL c j 0 (D.getD k []) (priceR c D k) ≠ [] := fun hh => by
      obtain ⟨y,hy1,hy2⟩ := hD.some _ (getD_mem (d := []) (show k < D.length by omega))
      obtain ⟨i,hi,ei⟩ := List.getElem_of_mem hy1
      have e2 : (D.getD k []).getD i 0 = y := by rw [List.getD_eq_getElem?_getD (l := D.getD k []),List.getElem?_eq_getElem hi,Option.getD_some,ei]
      have := (mem_beforeL (c := c) (j := j) (n := (priceR c D k).getD i 0 + chgN c (0 + i) j) (r := D.getD k []) (q := priceR c D k) (k := 0) (by omega)).2 ⟨i,hi,by rw [e2]; exact hy2,rfl⟩
      rw [hh] at this
      cases this
    obtain ⟨hb1,hb2⟩ := bestL_spec hitem hne2
    have et1 := take_snocD (D := D) (k := k) (by omega)
    have hlast : ∀ {x : List Nat} {i : Nat},ValidC (D.take (k + 1)) (x ++ [i]) → costC c none (D.take (k + 1) ++ [D.getD (k + 1) []]) ((x ++ [i]) ++ [j]) = costC c none (D.take (k + 1)) (x ++ [i]) + (D.getD (k + 1) []).getD j 0 + chgN c i j := fun {x i} hv => by
      rw [costC_snoc c none _ _ _ _ (validC_len hv).symm]
      have : (x ++ [i]).getLast? = some i := by simp
      rw [this]; rfl
    rw [et,e]
    refine ⟨?_,fun x hx => ?_⟩
    · obtain ⟨i,h1,h2,h3⟩ := (mem_beforeL (by omega)).1 hb1
      obtain ⟨⟨x,hx1,hx2⟩,_⟩ := ih i (by omega) h2
      refine ⟨x ++ [i],validC_snoc hx1 (by omega) hne,?_⟩
      rw [hlast hx1,hx2,h3,Nat.zero_add]
      omega
    · obtain ⟨xs,i,e1,e2,_⟩ := validC_init hx
      obtain ⟨e3,e4⟩ := List.append_inj' e1 rfl
      subst e3
      have e5 : j = i := by simpa using e4
      subst e5
      rw [et1] at e2
      obtain ⟨ys,i,e6,e7,e8,e9⟩ := validC_init e2
      subst e6
      have hm := hb2 _ ((mem_beforeL (by omega)).2 ⟨i,e8,e9,rfl⟩)
      rw [← et1] at e2
      have := (ih i (by omega) e9).2 ys e2
      rw [hlast e2]
      rw [Nat.zero_add] at hm
      omega
theorem TabOk.take {D : List (List Int)} {n : Nat} {B : Int} (h : TabOk D n B) (k : Nat) : TabOk (D.take k) n B :=
  ⟨fun r hr => h.len r (List.mem_of_mem_take hr),fun r hr => h.val r (List.mem_of_mem_take hr),fun r hr => h.some r (List.mem_of_mem_take hr)⟩
theorem price_bound {c B : Int} {n : Nat} {D : List (List Int)} (hc : 0 ≤ c) (hB : 0 ≤ B) (hD : TabOk D n B) {k j : Nat} (hk : k < D.length) (hj : j < n) : 0 ≤ (priceR c D k).getD j 0 ∧ (priceR c D k).getD j 0 ≤ (B + c) * (D.length : Int) := by
  have hl := hD.row hk
  have h0 : 0 ≤ (B + c) * (D.length : Int) := Int.mul_nonneg (by omega) (by omega)
  by_cases hne : (D.getD k []).getD j 0 = -1
  · rw [priceR_never (by omega) hne]
    exact ⟨Int.le_refl _,h0⟩
  · obtain ⟨⟨x,hx1,hx2⟩,_⟩ := price_spec hc hB hD k hk j hj hne
    rw [← hx2]
    have hb := costC_bound (p := none) hc hB (hD.take (k + 1)) hx1
    refine ⟨hb.1,Int.le_trans hb.2 ?_⟩
    exact Int.mul_le_mul_of_nonneg_left (by rw [List.length_take]; omega) (by omega)
def lastL (r q : List Int) : List Int := beforeL 0 0 0 r q
theorem chgN_zero (i j : Nat) : chgN 0 i j = 0 := by unfold chgN; split <;> rfl
theorem mem_lastL {n : Int} {r q : List Int} (h : r.length = q.length) : n ∈ lastL r q ↔ ∃ i,i < r.length ∧ r.getD i 0 ≠ -1 ∧ n = q.getD i 0 := by
  unfold lastL
  rw [mem_beforeL h]
  simp [chgN_zero]
theorem bound_best {c B : Int} {n : Nat} {D : List (List Int)} (hc : 0 ≤ c) (hB : 0 ≤ B) (hD : TabOk D n B) (h0 : 0 < D.length) {a : List Nat} (ha : LeastC c D a) :
    bestL (lastL (D.getD (D.length - 1) []) (priceR c D (D.length - 1))) = costC c none D a := by
  have hk : D.length - 1 < D.length := by omega
  have hl := hD.row hk
  have hpl := priceR_len c D (D.length - 1)
  have et : D.take (D.length - 1 + 1) = D := List.take_of_length_le (by omega)
  have hsp := price_spec hc hB hD (D.length - 1) hk
  rw [et] at hsp
  have hitem : ∀ m ∈ lastL (D.getD (D.length - 1) []) (priceR c D (D.length - 1)),0 ≤ m := fun m hm => by
    obtain ⟨i,h1,h2,rfl⟩ := (mem_lastL (by omega)).1 hm
    exact (price_bound hc hB hD hk (by omega)).1
  -- the choice ends somewhere
  have hlen := validC_len ha.1
  obtain ⟨x,j,rfl⟩ : ∃ x j,a = x ++ [j] := by
    rcases List.eq_nil_or_concat a with e | ⟨x,j,e⟩
    · rw [e] at hlen; simp at hlen; omega
    · exact ⟨x,j,by simpa using e⟩
  have hv := ha.1
  have et2 : D = D.take (D.length - 1) ++ [D.getD (D.length - 1) []] := by rw [← take_snocD hk,et]
  obtain ⟨hj,hjn⟩ : j < n ∧ (D.getD (D.length - 1) []).getD j 0 ≠ -1 := by
    rw [et2] at hv
    obtain ⟨xs,i,e1,_,e3,e4⟩ := validC_init hv
    obtain ⟨_,e6⟩ := List.append_inj' e1 rfl
    have e7 : j = i := by simpa using e6
    subst e7
    exact ⟨by omega,e4⟩
  have hm : (priceR c D (D.length - 1)).getD j 0 ∈ lastL (D.getD (D.length - 1) []) (priceR c D (D.length - 1)) := (mem_lastL (by omega)).2 ⟨j,by omega,hjn,rfl⟩
  obtain ⟨hb1,hb2⟩ := bestL_spec hitem (fun e => by rw [e] at hm; cases hm)
  obtain ⟨i,h1,h2,h3⟩ := (mem_lastL (by omega)).1 hb1
  obtain ⟨⟨y,hy1,hy2⟩,_⟩ := hsp i (by omega) h2
  have q1 := ha.2 _ hy1
  have q2 := (hsp j hj hjn).2 x ha.1
  have q3 := hb2 _ hm
  omega
theorem bestL_snoc (l : List Int) (n : Int) : bestL (l ++ [n]) = bstG (bestL l) n := by simp [bestL,List.foldl_append]
end Go.Lq

namespace Go.Lq
open Go
open Go.Proofs
def priceW (c : Int) (D : List (List Int)) (n k j : Nat) : List Int := (priceR c D k).take j ++ List.replicate (n - j) 0
theorem priceW_len {c : Int} {D : List (List Int)} {n k j : Nat} (hl : (priceR c D k).length = n) (hj : j ≤ n) : (priceW c D n k j).length = n := by
  simp [priceW]; omega
theorem priceW_set {c : Int} {D : List (List Int)} {n k j : Nat} (hl : (priceR c D k).length = n) (hj : j < n) : (priceW c D n k j).set j ((priceR c D k).getD j 0) = priceW c D n k (j + 1) := by
  unfold priceW
  rw [List.set_append_right _ _ (by simp; omega),show j - ((priceR c D k).take j).length = 0 by simp; omega,show n - j = (n - (j + 1)) + 1 by omega,List.replicate_succ,List.set_cons_zero,take_snocI (by omega),List.append_assoc]
  rfl
theorem priceW_at {c : Int} {D : List (List Int)} {n k j : Nat} (hl : (priceR c D k).length = n) (hj : j < n) : (priceW c D n k j).getD j 0 = 0 := by
  unfold priceW
  rw [List.getD_eq_getElem?_getD,List.getElem?_append_right (by simp; omega)]
  have e : j - ((priceR c D k).take j).length = 0 := by simp; omega
  rw [e,List.getElem?_replicate,if_pos (by omega)]; rfl
theorem priceW_skip {c : Int} {D : List (List Int)} {n k j : Nat} (hl : (priceR c D k).length = n) (hj : j < n) (h : (priceR c D k).getD j 0 = 0) : priceW c D n k (j + 1) = priceW c D n k j := by
  rw [← priceW_set hl hj,h]
  refine List.ext_getElem (by simp) fun i h1 h2 => ?_
  rw [List.getElem_set]
  split
  · rename_i e
    subst e
    have := priceW_at (c := c) (D := D) hl hj
    rw [List.getD_eq_getElem?_getD,List.getElem?_eq_getElem h2] at this
    exact this.symm
  · rfl
theorem priceW_zero {c : Int} {D : List (List Int)} {n k : Nat} : priceW c D n k 0 = List.replicate n 0 := by simp [priceW]
theorem priceW_all {c : Int} {D : List (List Int)} {n k : Nat} (hl : (priceR c D k).length = n) : priceW c D n k n = priceR c D k := by
  unfold priceW
  rw [Nat.sub_self,List.replicate_zero,List.append_nil,List.take_of_length_le (by omega)]
section
variable {H : AHeap}
structure BfFact (idt idk idp idj : Nat) (v dv pv : Value) (a b c : Int) (k j : Nat) (D Q : List (List Int)) (ds ps : List Value) (H : AHeap) : Prop where
  t : H[idt]? = some (.cells true 0 [v,.int .i64 a,.int .i64 b,.int .i64 c,dv])
  k : H[idk]? = some (.cells true 0 [.int .i64 ((k + 1 : Nat) : Int)])
  p : H[idp]? = some (.cells true 0 [pv])
  j : H[idj]? = some (.cells true 0 [.int .i64 (j : Int)])
  D : Lists H D ds dv
  Q : Lists H Q ps pv
set_option maxHeartbeats 2000000 in
theorem before1_c {idt idk idp idj : Nat} {v dv pv : Value} {a b c : Int} {k j : Nat} {D Q : List (List Int)} {ds ps : List Value} (hv : isAtom v = true) (hda : isAtom dv = true) (hc : 0 ≤ c ∧ c ≤ 10000000) (hkD : k < D.length) (hDn : D.length ≤ 1000000) (hkQ : k < Q.length) (hl : (D.getD k []).length = (Q.getD k []).length) (hln : (Q.getD k []).length ≤ 1000)
    (hb : ∀ i,i < (Q.getD k []).length → 0 ≤ (Q.getD k []).getD i 0 ∧ (Q.getD k []).getD i 0 ≤ 1000000000) :
    GenA Go.Proofs.Tryz.prog 59 [] [.pointer (some ⟨idt,0,none⟩),.pointer (some ⟨idk,0,none⟩),.pointer (some ⟨idp,0,none⟩),.pointer (some ⟨idj,0,none⟩)] (BfFact idt idk idp idj v dv pv a b c k j D Q ds ps) (itemsV (beforeL c j 0 (D.getD k []) (Q.getD k []))) := by
  intro l I S H hF hround hI0
  show ACall _ _ [.func (.yield l) #[] #[],.pointer (some ⟨idt,0,none⟩),.pointer (some ⟨idk,0,none⟩),.pointer (some ⟨idp,0,none⟩),.pointer (some ⟨idj,0,none⟩)] _ _
  obtain ⟨f1,f2,f3,f4,f5,f6⟩ := hF _ _ hI0
  have e1 : ((k + 1 : Nat) : Int) - 1 = (k : Int) := by omega
  have r5 := f5.row hkD
  (refine a59 ?_; simp only [n59,List.replicate,List.length_cons,List.length_nil,List.cons_append,List.nil_append]; first | refine Go.Lq.q1 ?_ | refine Go.Lq.q2 ?_ | refine Go.Lq.q6 ?_ | refine Go.Lq.q7 ?_ | refine Go.Lq.qh rfl ?_ | skip)
  (repeat(first|refine yw ?_|((first|apply yd|apply ye);simp (disch:=first|exact zz|fail) only[go_sem,f5.len,f5.idx,f5.load,r5.len,r5.idx,r5.load,load_at f1,load_at f2,e1];with_reducible rfl)))
  refine awp_loop_n [true,true,true,true,true,false,false,false,false,false,false,false,false,true,true,true,false,false,false,false,false,false,false,false,false,false,false,false,false,false,false,false,false,false,false,false,false,false,false,false,false] (D.getD k []).length (fun i e H' => e = [.func (.yield l) #[] #[],.pointer (some ⟨idt,0,none⟩),.pointer (some ⟨idk,0,none⟩),.pointer (some ⟨idp,0,none⟩),.pointer (some ⟨idj,0,none⟩),junk,junk,junk,junk,junk,junk,junk,junk,ds.getD k undef,.int .i64 (D.getD k []).length,.int .i64 (i : Int),junk,junk,junk,junk,junk,junk,junk,junk,junk,junk,junk,junk,junk,junk,junk,junk,junk,junk,junk,junk,junk,junk,junk,junk,junk] ∧ I (itemsV (beforeL c j i ((D.getD k []).drop i) ((Q.getD k []).drop i))) H') ?_ ?_
  · exact ⟨by simp [forget],by simpa using hI0⟩
  clear f1 f2 f3 f4 f5 f6 r5
  rintro i e G hk ⟨rfl,hI⟩
  (refine yg ?_)
  refine cond_p rfl (fun hlt => ?_) (fun hge => ?_)
  rotate_left 1
  · obtain rfl : i = (D.getD k []).length := by omega
    rw [drop_end (Nat.le_refl _)] at hI
    (refine yg ?_)
    exact ⟨.inl rfl,undef,rfl,.inl hI⟩
  have hi' : i < (D.getD k []).length := by omega
  obtain ⟨f1,f2,f3,f4,f5,f6⟩ := hF _ _ hI
  have r5 := f5.row hkD
  have r6 := f6.row hkQ
  have hbk := hb i (by omega)
  rw [drop_getD (d := 0) hi',drop_getD (d := 0) (show i < (Q.getD k []).length by omega)] at hI
  unfold beforeL at hI
  have hcb := chgN_bound hc i j
  by_cases hn : (D.getD k []).getD i 0 = -1
  · rw [if_pos hn] at hI
    (repeat(first|refine yw ?_|((first|apply yd|apply ye);simp (disch:=first|exact zz|fail) only[go_sem,r5.len,r5.idx,r5.load,dec_f (show ¬ (D.getD k []).getD i 0 ≠ -1 from fun h => h hn)];with_reducible rfl)))
    refine cond_f rfl ?_
    (refine yg ?_)
    exact ⟨by omega,by simp [forget],hI⟩
  · rw [if_neg hn] at hI
    (repeat(first|refine yw ?_|((first|apply yd|apply ye);simp (disch:=first|exact zz|fail) only[go_sem,r5.len,r5.idx,r5.load];with_reducible rfl)))
    (repeat(first|refine yw ?_|((first|apply yd|apply ye);simp (disch:=first|exact zz|fail) only[go_sem,f6.len,f6.idx,f6.load,r6.len,r6.idx,r6.load,dec_t (show (D.getD k []).getD i 0 ≠ -1 from hn),load_at f3,load_at f2,e1,loadN_at f1,load_at f4];with_reducible rfl)))
    (refine adraw_call (N := []) (firstD (change_c (v := v) (dv := dv) (a := a) (b := b) (c := c) (i := i) (j := j) hv hda)) ?_; rw [List.append_nil])
    (refine yg ?_)
    refine aops_call ((hround _ _ _ hI).mono fun v1 H3 hh => ?_)
    rcases hh with ⟨rfl,hI3⟩ | ⟨rfl,hS⟩
    · (refine yg ?_)
      refine cond_f rfl ?_
      (refine yg ?_)
      exact ⟨by omega,by simp [forget],hI3⟩
    · (refine yg ?_)
      refine cond_t rfl ?_
      (refine yg ?_)
      exact ⟨.inr rfl,undef,rfl,.inr hS⟩
theorem before_c {v dv pv : Value} {a b c : Int} {k j : Nat} (h : isAtom v = true) (h2 : isAtom dv = true) (h3 : ∃ a n c,pv = .slice a n c) :
    ACall Go.Proofs.Tryz.prog 30 [.agg ⟨[v,.int .i64 a,.int .i64 b,.int .i64 c,dv]⟩,.int .i64 (k : Int),.int .i64 (j : Int),pv] H fun w H' =>
      w = .func (.func 59) #[] #[.pointer (some ⟨H.length,0,none⟩),.pointer (some ⟨H.length + 1,0,none⟩),.pointer (some ⟨H.length + 3,0,none⟩),.pointer (some ⟨H.length + 2,0,none⟩)] ∧
      H' = H ++ [.cells true 0 [v,.int .i64 a,.int .i64 b,.int .i64 c,dv],.cells true 0 [.int .i64 (k : Int)],.cells true 0 [.int .i64 (j : Int)],.cells true 0 [pv]] := by
  obtain ⟨p,q,r,rfl⟩ := h3
  (refine a30 ?_; simp only [n30,List.replicate,List.length_cons,List.length_nil,List.cons_append,List.nil_append]; first | refine Go.Lq.q1 ?_ | refine Go.Lq.q2 ?_ | refine Go.Lq.q6 ?_ | refine Go.Lq.q7 ?_ | refine Go.Lq.qh rfl ?_ | skip)
  have hbx : ∀ J : AHeap,boxR (.slice p q r) J = some (.pointer (some ⟨J.length,0,none⟩),J ++ [.cells true 0 [.slice p q r]]) := fun _ => rfl
  have hbi : ∀ (J : AHeap) (i : Nat),boxR (.int .i64 (i : Int)) J = some (.pointer (some ⟨J.length,0,none⟩),J ++ [.cells true 0 [.int .i64 (i : Int)]]) := fun _ _ => rfl
  (repeat(first|refine yw ?_|((first|apply yd|apply ye);simp (disch:=first|exact zz|fail) only[go_sem,box_x h h2,hbx,hbi];with_reducible rfl)))
  refine fin_1 ⟨?_,by simp⟩
  simp [go_sem]
set_option maxRecDepth 100000 in
set_option maxHeartbeats 8000000 in
theorem jprices_c {l : List Tr} {us : List Value} {v : Value} {N P : Nat} {c : Int} (hT : Trs H l us v) (hk : TaskOk l N P c) :
    ACall Go.Proofs.Tryz.prog 9 [.agg ⟨[v,.int .i64 ((N * P : Nat) : Int),.int .i64 (P : Int),.int .i64 c]⟩] H fun w H' => ∃ (pv : Value) (ps : List Value),w = .tuple #[pv,.int .i64 0] ∧ Lists H' (priceT c (devTab l P N) N) ps pv ∧ Ext H H' := by
  have ha := hT.atom
  have hD := devTab_ok hk
  have hDl := devTab_len l P N
  obtain ⟨D,hDe⟩ : ∃ D,D = devTab l P N := ⟨_,rfl⟩
  have ho := hk.trs
  obtain ⟨n1,n2⟩ := ho.len
  obtain ⟨hN1,hN2⟩ := hk.N1
  obtain ⟨hc1,hc2⟩ := hk.chg
  have hB : (0 : Int) ≤ 13106800 := by decide
  obtain ⟨L,hL⟩ : ∃ L,N * P = L := ⟨_,rfl⟩
  have hjo := fun (G : AHeap) (hG : Ext H G) => jopen_c (hT.ext hG) hk
  rw [← hDe] at hD hDl ⊢
  simp only [← hDe] at hjo
  rw [hL] at hjo ⊢
  (refine a9 ?_; simp only [n9,List.replicate,List.length_cons,List.length_nil,List.cons_append,List.nil_append]; first | refine Go.Lq.q1 ?_ | refine Go.Lq.q2 ?_ | refine Go.Lq.q6 ?_ | refine Go.Lq.q7 ?_ | refine Go.Lq.qh rfl ?_ | skip)
  obtain ⟨A,hA⟩ : ∃ A,A = H ++ [AObj.cells true 0 [v,.int .i64 (L : Int),.int .i64 (P : Int),.int .i64 c]] := ⟨_,rfl⟩
  have a0 : A[H.length]? = some (.cells true 0 [v,.int .i64 (L : Int),.int .i64 (P : Int),.int .i64 c]) := by rw [hA]; exact at_new
  have xA : Ext H A := by rw [hA]; exact (Ext.refl H).app _
  (repeat(first|refine yw ?_|((first|apply yd|apply ye);simp (disch:=first|exact zz|fail) only[go_sem,box_tk ha];with_reducible rfl)))
  rw [← hA]
  clear hA
  (repeat(first|refine yw ?_|((first|apply yd|apply ye);simp (disch:=first|exact zz|fail) only[go_sem,loadN_at a0];with_reducible rfl)))
  refine aops_call ((hjo A xA).mono fun w H1 ⟨dv,ew,oD,x1⟩ => ?_)
  subst ew
  obtain ⟨d1,d2,d3,rfl⟩ := oD.shape
  obtain ⟨ds,hDL⟩ := oD.lists
  have st5 : ∀ (J : AHeap) (a1 a2 a3 a4 a5 : Value),storeR 5 (.pointer (some ⟨J.length,0,none⟩)) (.agg ⟨[v,.int .i64 (L : Int),.int .i64 (P : Int),.int .i64 c,.slice d1 d2 d3]⟩) (J ++ [.cells true 0 [a1,a2,a3,a4,a5]]) = some (undef,J ++ [.cells true 0 [v,.int .i64 (L : Int),.int .i64 (P : Int),.int .i64 c,.slice d1 d2 d3]]) := fun J a1 a2 a3 a4 a5 =>
    store_new (us := [v,.int .i64 (L : Int),.int .i64 (P : Int),.int .i64 c,.slice d1 d2 d3]) (by simp [ha,isAtom_int,isAtom_slice]) rfl
  (repeat(first|refine yw ?_|((first|apply yd|apply ye);simp (disch:=first|exact zz|fail) only[go_sem,st5];with_reducible rfl)))
  obtain ⟨G,hG⟩ : ∃ G,G = H1 ++ [AObj.cells true 0 [v,.int .i64 (L : Int),.int .i64 (P : Int),.int .i64 c,.slice d1 d2 d3]] := ⟨_,rfl⟩
  obtain ⟨ix,hix⟩ : ∃ ix,ix = H1.length := ⟨_,rfl⟩
  have g0 : G[ix]? = some (.cells true 0 [v,.int .i64 (L : Int),.int .i64 (P : Int),.int .i64 c,.slice d1 d2 d3]) := by rw [hG,hix]; exact at_new
  have xG : Ext H1 G := by rw [hG]; exact (Ext.refl H1).app _
  rw [← hG,← hix]
  clear hG hix
  have xHG := xA.trans (x1.trans xG)
  have hDG := hDL.ext xG
  (refine yg ?_)
  refine cond_f rfl ?_
  (repeat(first|refine yw ?_|((first|apply yd|apply ye);simp (disch:=first|exact zz|fail) only[go_sem,hDG.len,hDG.idx,hDG.load,load_at g0];with_reducible rfl)))
  refine awp_loop_n [false,false,false,false,true,false,true,false,false,false,false,false,false,false,false,false,false,false,false,false,false,true,true,true,false,false,false,false,false,false,false,false,false,false,false,false,false,false,false,false,false,false,false,false,false,false,false,false,false,false,false,false,false,false,false,false,false,false,false,false,false,false,false,false,false] D.length (fun k e K => ∃ ov,e = [junk,junk,junk,junk,.pointer (some ⟨ix,0,none⟩),junk,ov,junk,junk,junk,junk,junk,junk,junk,junk,junk,junk,junk,junk,junk,junk,.slice d1 d2 d3,.int .i64 (D.length : Nat),.int .i64 (k : Int),junk,junk,junk,junk,junk,junk,junk,junk,junk,junk,junk,junk,junk,junk,junk,junk,junk,junk,junk,junk,junk,junk,junk,junk,junk,junk,junk,junk,junk,junk,junk,junk,junk,junk,junk,junk,junk,junk,junk,junk,junk] ∧ OwnL G K (priceT c D k) ov ∧ Ext G K) ?_ ?_
  · exact ⟨.slice none 0 0,by simp [forget],by simp [priceT]; exact OwnL.nil _ _,Ext.refl _⟩
  rintro k e K hk2 ⟨ov,rfl,oK,xK⟩
  (refine yg ?_)
  refine cond_p rfl (fun hlt => ?_) (fun hge => ?_)
  rotate_left 1
  · obtain rfl : k = D.length := by omega
    obtain ⟨ps,hps⟩ := oK.lists
    rw [hDl] at hps
    (refine yg ?_)
    exact fin_2 ⟨ov,ps,rfl,hps,xHG.trans xK⟩
  have hkD : k < D.length := by omega
  have hDK := hDG.ext xK
  have hrow := hDK.row hkD
  have hrl := hD.row hkD
  have hrl' : ((D.getD k []).length : Int) = (l.length : Int) := by rw [hrl]
  have hpl : (priceR c D k).length = l.length := by rw [priceR_len]; exact hrl
  have kx := xK.cell g0
  obtain ⟨ps,hps⟩ := oK.lists
  obtain ⟨o1,o2,o3,rfl⟩ := oK.shape
  (repeat(first|refine yw ?_|((first|apply yd|apply ye);simp (disch:=first|exact zz|fail) only[go_sem,hDK.len,hDK.idx,hDK.load,hrow.len,hrow.idx,hrow.load,hrl',mkSlice_ints (n := l.length) n1 (by omega)];with_reducible rfl)))
  have oW0 : OwnI K (K ++ [AObj.cells true 1 ((List.replicate l.length (0 : Int)).map (.int .i64))]) (List.replicate l.length (0 : Int)) (.slice (some ⟨K.length,0,none⟩) (List.replicate l.length (0 : Int)).length (List.replicate l.length (0 : Int)).length) := OwnI.last (Nat.le_refl _) (by simp; omega)
  rw [List.length_replicate] at oW0
  refine awp_loop_n [false,false,false,false,true,false,true,true,false,true,false,false,false,false,false,false,false,false,false,false,false,true,true,true,false,false,false,false,false,false,false,true,true,true,false,false,false,false,false,false,false,false,false,false,false,false,false,false,false,false,false,false,false,false,false,false,false,false,false,false,false,false,false,false,false] l.length (fun j e J => e = [junk,junk,junk,junk,.pointer (some ⟨ix,0,none⟩),junk,.slice o1 o2 o3,.int .i64 (k : Int),junk,.slice (some ⟨K.length,0,none⟩) l.length l.length,junk,junk,junk,junk,junk,junk,junk,junk,junk,junk,junk,.slice d1 d2 d3,.int .i64 (D.length : Nat),.int .i64 (k : Int),junk,junk,junk,junk,junk,junk,junk,ds.getD k undef,.int .i64 (l.length : Nat),.int .i64 (j : Int),junk,junk,junk,junk,junk,junk,junk,junk,junk,junk,junk,junk,junk,junk,junk,junk,junk,junk,junk,junk,junk,junk,junk,junk,junk,junk,junk,junk,junk,junk,junk] ∧ OwnI K J (priceW c D l.length k j) (.slice (some ⟨K.length,0,none⟩) l.length l.length) ∧ Ext K J) ?_ ?_
  · exact ⟨by simp [forget],by rw [priceW_zero]; exact oW0,(Ext.refl K).app _⟩
  clear oW0
  rintro j e J hj ⟨rfl,oJ,xJ⟩
  (refine yg ?_)
  refine cond_p rfl (fun hlt2 => ?_) (fun hge2 => ?_)
  rotate_left 1
  · obtain rfl : j = l.length := by omega
    rw [priceW_all hpl] at oJ
    obtain ⟨v',K',hap,oK',xK'⟩ := oK.pushRow xK xJ oJ (by omega) (by rw [priceT_len]; omega)
    rw [← priceT_succ] at oK'
    (repeat(first|refine yw ?_|((first|apply yd|apply ye);simp (disch:=first|exact zz|fail) only[go_sem,fillA_slice,hap];with_reducible rfl)))
    exact ⟨by omega,v',by simp [forget],oK',xK'⟩
  have hj' : j < l.length := by omega
  have hwl := priceW_len (c := c) (D := D) (n := l.length) (k := k) (j := j) hpl (by omega)
  have hrJ := hrow.ext xJ
  have jx := xJ.cell kx
  have hat := hD.at hkD hj'
  obtain ⟨own,hown⟩ : ∃ own,own = (D.getD k []).getD j 0 := ⟨_,rfl⟩
  rw [← hown] at hat
  by_cases hne : own = -1
  · have hz := priceR_never (c := c) (D := D) (k := k) (j := j) (by omega) (by rw [← hown]; exact hne)
    (repeat(first|refine yw ?_|((first|apply yd|apply ye);simp (disch:=first|exact zz|fail) only[go_sem,hrJ.len,hrJ.idx,hrJ.load,← hown,dec_t hne];with_reducible rfl)))
    refine cond_t rfl ?_
    (refine yg ?_)
    exact ⟨by omega,by simp [forget],by rw [priceW_skip hpl hj' hz]; exact oJ,xJ⟩
  have s1 := oJ.store (k := j) (by omega) own
  have oJ1 := oJ.stored ((priceW c D l.length k j).set j own) (by simp)
  have xJ1 := oJ.ext_set xJ ((priceW c D l.length k j).set j own)
  have hwi := oJ.ints
  have hwi' : ((priceW c D l.length k j).length : Int) = (l.length : Int) := by rw [hwl]
  obtain ⟨J1,hJ1⟩ : ∃ J1,J1 = setH J (.slice (some ⟨K.length,0,none⟩) l.length l.length) ((priceW c D l.length k j).set j own) := ⟨_,rfl⟩
  rw [← hJ1] at s1 oJ1 xJ1
  (repeat(first|refine yw ?_|((first|apply yd|apply ye);simp (disch:=first|exact zz|fail) only[go_sem,hrJ.len,hrJ.idx,hrJ.load,← hown,dec_f hne];with_reducible rfl)))
  refine cond_f rfl ?_
  (repeat(first|refine yw ?_|((first|apply yd|apply ye);simp (disch:=first|exact zz|fail) only[go_sem,hwi.len,hwi.idx,hwi.load,s1];with_reducible rfl)))
  cases k with
  | zero =>
    have hpz := priceR_zero (c := c) (D := D) (j := j) (by omega)
    rw [← hown,if_neg hne] at hpz
    rw [← hpz,priceW_set hpl hj'] at oJ1
    refine cond_p rfl (fun h0 => absurd h0 (by omega)) (fun _ => ?_)
    (refine yg ?_)
    exact ⟨by omega,by simp [forget],oJ1,xJ1⟩
  | succ k =>
    have hpz := priceR_succ (c := c) (D := D) (k := k) (j := j) (by omega)
    rw [← hown,if_neg hne] at hpz
    have hkk : k < D.length := by omega
    have hprl : (priceR c D k).length = l.length := by rw [priceR_len,hD.row hkk]
    have hpT : (priceT c D (k + 1)).getD k [] = priceR c D k := priceT_at (by omega)
    have hbd : ∀ q,q < l.length → 0 ≤ (priceR c D k).getD q 0 ∧ (priceR c D k).getD q 0 ≤ 1000000000 := fun q hq => by
      have := price_bound hc1 hB hD hkk hq
      have h1 : ((13106800 : Int) + c) * (D.length : Int) ≤ 30000000 * 20 := Int.mul_le_mul (by omega) (by omega) (by omega) (by decide)
      omega
    have hpb := price_bound (c := c) hc1 hB hD hkD hj'
    have hpb2 : (priceR c D (k + 1)).getD j 0 ≤ 600000000 := by
      have h1 : ((13106800 : Int) + c) * (D.length : Int) ≤ 30000000 * 20 := Int.mul_le_mul (by omega) (by omega) (by omega) (by decide)
      omega
    have jx1 := xJ1.cell kx
    have hw1 := oJ1.ints
    have hw1l : (((priceW c D l.length (k + 1) j).set j own).length : Int) = (l.length : Int) := by rw [List.length_set,hwl]
    have hw1a : ((priceW c D l.length (k + 1) j).set j own).getD j 0 = own := getD_set_eq (by omega)
    refine cond_p rfl (fun _ => ?_) (fun h0 => absurd (show (0 : Int) < ((k + 1 : Nat) : Int) by omega) h0)
    (repeat(first|refine yw ?_|((first|apply yd|apply ye);simp (disch:=first|exact zz|fail) only[go_sem,hw1.len,hw1.idx,hw1.load,loadN_at jx1,hw1l,hw1a];with_reducible rfl)))
    refine adraw_call (before_c (v := v) (dv := .slice d1 d2 d3) (pv := .slice o1 o2 o3) (a := (L : Int)) (b := (P : Int)) (c := c) (k := k + 1) (j := j) ha rfl ⟨_,_,_,rfl⟩) ?_
    obtain ⟨J2,hJ2⟩ : ∃ J2,J2 = J1 ++ [AObj.cells true 0 [v,.int .i64 (L : Int),.int .i64 (P : Int),.int .i64 c,.slice d1 d2 d3],AObj.cells true 0 [.int .i64 ((k + 1 : Nat) : Int)],AObj.cells true 0 [.int .i64 (j : Int)],AObj.cells true 0 [.slice o1 o2 o3]] := ⟨_,rfl⟩
    have q0' : J2[J1.length]? = some (.cells true 0 [v,.int .i64 (L : Int),.int .i64 (P : Int),.int .i64 c,.slice d1 d2 d3]) := by rw [hJ2]; simp
    have q1' : J2[J1.length + 1]? = some (.cells true 0 [.int .i64 ((k + 1 : Nat) : Int)]) := by rw [hJ2]; simp
    have q2' : J2[J1.length + 2]? = some (.cells true 0 [.int .i64 (j : Int)]) := by rw [hJ2]; simp
    have q3' : J2[J1.length + 3]? = some (.cells true 0 [.slice o1 o2 o3]) := by rw [hJ2]; simp
    have x2 : Ext J1 J2 := by rw [hJ2]; exact (Ext.refl J1).app _
    have oJ2 : OwnI K J2 ((priceW c D l.length (k + 1) j).set j own) (.slice (some ⟨K.length,0,none⟩) l.length l.length) := by rw [hJ2]; exact oJ1.app _
    refine Eq.mp (congrArg (fun X => ADraw _ _ _ _ _ X) hJ2) ?_
    have hF : ∀ H',Ext J2 H' → BfFact J1.length (J1.length + 1) (J1.length + 3) (J1.length + 2) v (.slice d1 d2 d3) (.slice o1 o2 o3) (L : Int) (P : Int) c k j D (priceT c D (k + 1)) ds ps H' := fun H' hx =>
      ⟨hx.cell q0',hx.cell q1',hx.cell q3',hx.cell q2',hDK.ext (xJ1.trans (x2.trans hx)),hps.ext (xJ1.trans (x2.trans hx))⟩
    have hgen := before1_c (idt := J1.length) (idk := J1.length + 1) (idp := J1.length + 3) (idj := J1.length + 2) (v := v) (dv := .slice d1 d2 d3) (pv := .slice o1 o2 o3) (a := (L : Int)) (b := (P : Int)) (c := c) (k := k) (j := j) (D := D) (Q := priceT c D (k + 1)) (ds := ds) (ps := ps) ha rfl (by omega) hkk (by omega) (by rw [priceT_len]; omega) (by rw [hpT,hprl,hD.row hkk]) (by rw [hpT]; omega) (by rw [hpT,hprl]; exact hbd)
    rw [hpT] at hgen
    clear hJ2
    (refine yg ?_)
    (refine adraw_call (N := []) (firstD (best_c hgen hF)) ?_; rw [List.append_nil])
    have s2 := oJ2.store (k := j) (by simp; omega) ((priceR c D (k + 1)).getD j 0)
    have oJ3 := oJ2.stored (((priceW c D l.length (k + 1) j).set j own).set j ((priceR c D (k + 1)).getD j 0)) (by simp)
    have xJ3 := oJ2.ext_set (xJ1.trans x2) (((priceW c D l.length (k + 1) j).set j own).set j ((priceR c D (k + 1)).getD j 0))
    rw [List.set_set,priceW_set hpl hj'] at s2 oJ3 xJ3
    have hw2 := oJ2.ints
    (repeat(first|refine yw ?_|((first|apply yd|apply ye);simp (disch:=first|exact zz|fail) only[go_sem,hw2.len,hw2.idx,hw2.load,← hpz,hw1l,s2];with_reducible rfl)))
    exact ⟨by omega,by simp [forget],oJ3,xJ3⟩
end
end Go.Lq

namespace Go.Lq
open Go
open Go.Proofs
theorem beforeL_snoc (c : Int) (j : Nat) : ∀ (r q : List Int) (k : Nat) (x y : Int),r.length = q.length → beforeL c j k (r ++ [x]) (q ++ [y]) = beforeL c j k r q ++ (if x = -1 then [] else [y + chgN c (k + r.length) j])
  | [],[],k,x,y,_ => by
    simp only [List.nil_append,beforeL,List.length_nil,Nat.add_zero]
  | a :: r,b :: q,k,x,y,h => by
    have ih := beforeL_snoc c j r q (k + 1) x y (by simpa using h)
    simp only [List.cons_append,beforeL,List.length_cons]
    rw [ih,show k + 1 + r.length = k + (r.length + 1) by omega]
    split <;> simp
  | [],b :: q,k,x,y,h => by simp at h
  | a :: r,[],k,x,y,h => by simp at h
theorem lastL_snoc {r q : List Int} {j : Nat} (h : r.length = q.length) (hj : j < r.length) : lastL (r.take (j + 1)) (q.take (j + 1)) = lastL (r.take j) (q.take j) ++ (if r.getD j 0 = -1 then [] else [q.getD j 0]) := by
  rw [take_snocI hj,take_snocI (show j < q.length by omega)]
  unfold lastL
  rw [beforeL_snoc 0 0 _ _ _ _ _ (by simp; omega),chgN_zero,Int.add_zero]
def bV (l : List Int) : Int := if l = [] then 0 else bestL l
theorem bV_snoc {l : List Int} {x : Int} (h : ∀ n ∈ l,0 ≤ n) : bV (l ++ [x]) = if l = [] then x else if x < bV l then x else bV l := by
  unfold bV
  rw [if_neg (by simp),bestL_snoc]
  unfold bstG
  by_cases hl : l = []
  · subst hl
    rw [if_pos rfl,if_pos (.inl rfl)]
  · have hs := bestL_spec h hl
    have h0 := h _ hs.1
    rw [if_neg hl,if_neg hl]
    by_cases hx : x < bestL l
    · rw [if_pos hx,if_pos (.inr hx)]
    · rw [if_neg hx,if_neg (by omega)]
def curL (D Q : List (List Int)) (k j : Nat) : List Int := if k + 1 = D.length then lastL ((D.getD k []).take j) ((Q.getD k []).take j) else []
theorem fin_ooJ {c : RCode} {n a b : Nat} {R : Value → AHeap → Prop} {e : Env} {H : AHeap} {u w : Value} (h1 : loadR (e.getD a undef) H = some (u,H)) (h2 : loadR (e.getD b undef) H = some (w,H)) (h : R (.tuple #[u,w]) H) :
    Fin ⟨c,n,[.load a,.load b]⟩ R .ret e H := by
  refine ⟨.inr rfl,_,?_,h⟩
  unfold loadR at h1 h2
  split at h1
  · rename_i id off hp
    simp only [Option.map_eq_some_iff,Prod.mk.injEq,and_true] at h1
    obtain ⟨us,h3,rfl⟩ := h1
    split at h2
    · rename_i id' off' hp'
      simp only [Option.map_eq_some_iff,Prod.mk.injEq,and_true] at h2
      obtain ⟨us',h4,rfl⟩ := h2
      simp only [resultA,List.mapM_cons,resA,hp,h3,hp',h4,Option.map_some,List.mapM_nil]
      rfl
    · cases h2
  · cases h1
section
variable {H : AHeap}
theorem checkPrices1_c : Asks (.func (.func 36) #[] #[]) (fun n => !decide (-1000000000 ≤ n ∧ n ≤ 1000000000)) := fun n H => by
  show ACall _ _ _ _ _
  simp only [List.append_nil,List.nil_append]
  (refine a36 ?_; simp only [n36,List.replicate,List.length_cons,List.length_nil,List.cons_append,List.nil_append]; first | refine Go.Lq.q1 ?_ | refine Go.Lq.q2 ?_ | refine Go.Lq.q6 ?_ | refine Go.Lq.q7 ?_ | refine Go.Lq.qh rfl ?_ | skip)
  (refine yg ?_)
  (refine aops_call_to (isSized_c n 1000000000 (by omega)) ?_)
  (refine yg ?_)
  exact fin_1 ⟨rfl,rfl⟩
set_option maxRecDepth 100000 in
set_option maxHeartbeats 8000000 in
theorem jcheck_c {l : List Tr} {us ps : List Value} {v pv : Value} {N P : Nat} {c c' : Int} (hT : Trs H l us v) (hk : TaskOk l N P c) (hk' : TaskOk l N P c') (hcc : c ≤ c') (hQ : Lists H (priceT c (devTab l P N) N) ps pv) :
    ACall Go.Proofs.Tryz.prog 11 [.agg ⟨[v,.int .i64 ((N * P : Nat) : Int),.int .i64 (P : Int),.int .i64 c']⟩,pv] H fun w H' => w = .tuple #[.int .i64 (bestL (lastL ((devTab l P N).getD (N - 1) []) (priceR c (devTab l P N) (N - 1)))),.int .i64 0] ∧ Ext H H' := by
  have ha := hT.atom
  have hD := devTab_ok hk
  have hDl := devTab_len l P N
  obtain ⟨D,hDe⟩ : ∃ D,D = devTab l P N := ⟨_,rfl⟩
  have ho := hk.trs
  obtain ⟨n1,n2⟩ := ho.len
  obtain ⟨hN1,hN2⟩ := hk.N1
  obtain ⟨hc1,hc2⟩ := hk.chg
  obtain ⟨hc3,hc4⟩ := hk'.chg
  have hB : (0 : Int) ≤ 13106800 := by decide
  obtain ⟨L,hL⟩ : ∃ L,N * P = L := ⟨_,rfl⟩
  have hjo := fun (G : AHeap) (hG : Ext H G) => jopen_c (hT.ext hG) hk'
  rw [← hDe] at hD hDl hQ ⊢
  simp only [← hDe] at hjo
  rw [hL] at hjo ⊢
  obtain ⟨Q,hQe⟩ : ∃ Q,Q = priceT c D N := ⟨_,rfl⟩
  rw [← hQe] at hQ
  have hQl : Q.length = N := by rw [hQe,priceT_len]
  have hQat : ∀ k,k < N → Q.getD k [] = priceR c D k := fun k h => by rw [hQe]; exact priceT_at h
  have hQrl : ∀ k,k < N → (Q.getD k []).length = l.length := fun k h => by rw [hQat k h,priceR_len,hD.row (by omega)]
  have hMM : ((13106800 : Int) + c) * (D.length : Int) ≤ 30000000 * 20 := Int.mul_le_mul (by omega) (by omega) (by omega) (by decide)
  have hQb : ∀ k,k < N → ∀ j,j < l.length → 0 ≤ (Q.getD k []).getD j 0 ∧ (Q.getD k []).getD j 0 ≤ 600000000 := fun k h j hj => by
    rw [hQat k h]
    have := price_bound (c := c) hc1 hB hD (k := k) (by omega) hj
    omega
  rw [← hQat (N - 1) (by omega)]
  (refine a11 ?_; simp only [n11,List.replicate,List.length_cons,List.length_nil,List.cons_append,List.nil_append]; first | refine Go.Lq.q1 ?_ | refine Go.Lq.q2 ?_ | refine Go.Lq.q6 ?_ | refine Go.Lq.q7 ?_ | refine Go.Lq.qh rfl ?_ | skip)
  (repeat(first|refine yw ?_|((first|apply yd|apply ye);simp (disch:=first|exact zz|fail) only[go_sem,box_tk ha];with_reducible rfl)))
  (simp only [List.length_append,List.length_cons,List.length_nil,Nat.zero_add,Nat.add_assoc,Nat.reduceAdd])
  obtain ⟨A,hA⟩ : ∃ A,A = H ++ [AObj.cells true 0 [v,.int .i64 (L : Int),.int .i64 (P : Int),.int .i64 c']] ++ [AObj.cells true 0 [.int .i64 0]] ++ [AObj.cells true 0 [.int .i64 0]] := ⟨_,rfl⟩
  have a0 : A[H.length]? = some (.cells true 0 [v,.int .i64 (L : Int),.int .i64 (P : Int),.int .i64 c']) := by rw [hA]; exact at_app (at_app at_new)
  have a1 : A[H.length + 1]? = some (.cells true 0 [.int .i64 0]) := by rw [hA]; simp
  have a2 : A[H.length + 2]? = some (.cells true 0 [.int .i64 0]) := by rw [hA]; simp
  have xA : Ext H A := by rw [hA]; exact (((Ext.refl H).app _).app _).app _
  rw [← hA]
  clear hA
  (repeat(first|refine yw ?_|((first|apply yd|apply ye);simp (disch:=first|exact zz|fail) only[go_sem,loadN_at a0];with_reducible rfl)))
  refine aops_call ((hjo A xA).mono fun w H1 ⟨dv,ew,oD,x1⟩ => ?_)
  subst ew
  obtain ⟨d1,d2,d3,rfl⟩ := oD.shape
  obtain ⟨ds,hDL⟩ := oD.lists
  have st5 : ∀ (J : AHeap) (a1 a2 a3 a4 a5 : Value),storeR 5 (.pointer (some ⟨J.length,0,none⟩)) (.agg ⟨[v,.int .i64 (L : Int),.int .i64 (P : Int),.int .i64 c',.slice d1 d2 d3]⟩) (J ++ [.cells true 0 [a1,a2,a3,a4,a5]]) = some (undef,J ++ [.cells true 0 [v,.int .i64 (L : Int),.int .i64 (P : Int),.int .i64 c',.slice d1 d2 d3]]) := fun J a1 a2 a3 a4 a5 =>
    store_new (us := [v,.int .i64 (L : Int),.int .i64 (P : Int),.int .i64 c',.slice d1 d2 d3]) (by simp [ha,isAtom_int,isAtom_slice]) rfl
  (repeat(first|refine yw ?_|((first|apply yd|apply ye);simp (disch:=first|exact zz|fail) only[go_sem,st5];with_reducible rfl)))
  obtain ⟨G,hG⟩ : ∃ G,G = H1 ++ [AObj.cells true 0 [v,.int .i64 (L : Int),.int .i64 (P : Int),.int .i64 c',.slice d1 d2 d3]] := ⟨_,rfl⟩
  obtain ⟨ix,hix⟩ : ∃ ix,ix = H1.length := ⟨_,rfl⟩
  have g0 : G[ix]? = some (.cells true 0 [v,.int .i64 (L : Int),.int .i64 (P : Int),.int .i64 c',.slice d1 d2 d3]) := by rw [hG,hix]; exact at_new
  have xG : Ext H1 G := by rw [hG]; exact (Ext.refl H1).app _
  rw [← hG,← hix]
  clear hG hix
  have xAG := x1.trans xG
  have hDG := hDL.ext xG
  have hQG := hQ.ext (xA.trans xAG)
  have hTG := hT.ext (xA.trans xAG)
  have eQD : (Q.length : Int) = (D.length : Int) := by rw [hQl,hDl]
  (repeat(first|refine yw ?_|((first|apply yd|apply ye);simp (disch:=first|exact zz|fail) only[go_sem,hDG.len,hDG.idx,hDG.load,hQG.len,hQG.idx,hQG.load,load_at g0,eQD];with_reducible rfl)))
  (refine aops_call_to (unless_c true 10) ?_)
  (refine yg ?_)
  refine aops_call_to (first_c (l := [_,_]) (Ints.last (l := [_,_]) 2) (by simp)) ?_
  (refine yg ?_)
  refine cond_f rfl ?_
  (repeat(first|refine yw ?_|((first|apply yd|apply ye);simp (disch:=first|exact zz|fail) only[go_sem,hQG.len,hQG.idx,hQG.load,eQD];with_reducible rfl)))
  refine awp_loop_n [false,true,true,false,true,true,true,false,false,false,false,false,false,false,false,false,false,false,false,false,false,false,false,false,false,false,false,false,false,false,false,false,false,false,false,false,false,false,true,true,true,false,false,false,false,false,false,false,false,false,false,false,false,false,false,false,false,false,false,false,false,false,false,false,false,false,false,false,false,false,false,false,false,false,false,false,false,false,false,false,false,false,false,false,false,false,false,false,false,false,false,false,false,false,false,false,false,false,false,false,false,false,false,false,false,false,false,false,false,false,false,false,false,false,false,false,false,false,false,false,false,false,false,false] D.length (fun k e K => e = [junk,pv,.pointer (some ⟨H.length,0,none⟩),junk,.pointer (some ⟨H.length + 1,0,none⟩),.pointer (some ⟨H.length + 2,0,none⟩),.pointer (some ⟨ix,0,none⟩),junk,junk,junk,junk,junk,junk,junk,junk,junk,junk,junk,junk,junk,junk,junk,junk,junk,junk,junk,junk,junk,junk,junk,junk,junk,junk,junk,junk,junk,junk,junk,pv,.int .i64 (D.length : Nat),.int .i64 (k : Int),junk,junk,junk,junk,junk,junk,junk,junk,junk,junk,junk,junk,junk,junk,junk,junk,junk,junk,junk,junk,junk,junk,junk,junk,junk,junk,junk,junk,junk,junk,junk,junk,junk,junk,junk,junk,junk,junk,junk,junk,junk,junk,junk,junk,junk,junk,junk,junk,junk,junk,junk,junk,junk,junk,junk,junk,junk,junk,junk,junk,junk,junk,junk,junk,junk,junk,junk,junk,junk,junk,junk,junk,junk,junk,junk,junk,junk,junk,junk,junk,junk,junk,junk] ∧ Ext G K) ?_ ?_
  · exact ⟨by simp [forget],(Ext.refl G).app _⟩
  rintro k e K hk2 ⟨rfl,xK⟩
  (refine yg ?_)
  refine cond_p rfl (fun hlt => ?_) (fun hge => ?_)
  · have hkD : k < D.length := by omega
    have hQK := hQG.ext xK
    have hrow := hQK.row (k := k) (by omega)
    have hTK := hTG.ext xK
    have k0 := (xAG.trans xK).cell a0
    have hrl : ((Q.getD k []).length : Int) = (l.length : Int) := by rw [hQrl k (by omega)]
    have hcf := containsFunc_c hrow checkPrices1_c (by rw [hQrl k (by omega)]; omega)
    have han : ((Q.getD k []).any fun n => !decide (-1000000000 ≤ n ∧ n ≤ 1000000000)) = false := List.any_eq_false.2 fun n hn => by
      obtain ⟨j,hj,ej⟩ := List.getElem_of_mem hn
      have := hQb k (by omega) j (by rw [hQrl k (by omega)] at hj; exact hj)
      rw [List.getD_eq_getElem?_getD (l := Q.getD k []),List.getElem?_eq_getElem hj,Option.getD_some,ej] at this
      simp; omega
    rw [han] at hcf
    (repeat(first|refine yw ?_|((first|apply yd|apply ye);simp (disch:=first|exact zz|fail) only[go_sem,hQK.len,hQK.idx,hQK.load];with_reducible rfl)))
    (refine aops_call_to (hcf) ?_)
    (repeat(first|refine yw ?_|((first|apply yd|apply ye);simp (disch:=first|exact zz|fail) only[go_sem,hrow.len,hrow.idx,hrow.load,hTK.len,hTK.idx,hTK.load,load_at k0,hrl];with_reducible rfl)))
    (refine aops_call_to (unless_c true 10) ?_)
    (refine yg ?_)
    (refine aops_call_to (unless_c true 2) ?_)
    (refine yg ?_)
    refine aops_call_to (first_c (l := [_,_]) (Ints.last (l := [_,_]) 2) (by simp)) ?_
    (refine yg ?_)
    refine cond_f rfl ?_
    (refine yg ?_)
    exact ⟨by omega,by simp [forget],xK.app _⟩
  clear hk2 hge
  have hDK := hDG.ext xK
  have kx := xK.cell g0
  (repeat(first|refine yw ?_|((first|apply yd|apply ye);simp (disch:=first|exact zz|fail) only[go_sem,hDK.len,hDK.idx,hDK.load,load_at kx];with_reducible rfl)))
  refine awp_loop_n [false,true,false,false,true,true,true,false,false,false,false,false,true,true,false,false,false,false,false,false,false,false,false,false,false,false,false,false,false,false,false,false,false,false,false,false,false,false,false,false,false,false,false,false,false,false,false,false,false,false,false,false,false,false,false,false,false,false,false,false,false,false,false,true,true,true,false,false,false,false,false,false,false,false,false,false,false,false,false,false,false,false,false,false,false,false,false,false,false,false,false,false,false,false,false,false,false,false,false,false,false,false,false,false,false,false,false,false,false,false,false,false,false,false,false,false,false,false,false,false,false,false,false,false] D.length (fun k e J => e = [junk,pv,junk,junk,.pointer (some ⟨H.length + 1,0,none⟩),.pointer (some ⟨H.length + 2,0,none⟩),.pointer (some ⟨ix,0,none⟩),junk,junk,junk,junk,junk,.int .i64 (bV (if k = D.length then lastL (D.getD (D.length - 1) []) (Q.getD (D.length - 1) []) else [])),.bool (decide ((if k = D.length then lastL (D.getD (D.length - 1) []) (Q.getD (D.length - 1) []) else []) ≠ [])),junk,junk,junk,junk,junk,junk,junk,junk,junk,junk,junk,junk,junk,junk,junk,junk,junk,junk,junk,junk,junk,junk,junk,junk,junk,junk,junk,junk,junk,junk,junk,junk,junk,junk,junk,junk,junk,junk,junk,junk,junk,junk,junk,junk,junk,junk,junk,junk,junk,.slice d1 d2 d3,.int .i64 (D.length : Nat),.int .i64 (k : Int),junk,junk,junk,junk,junk,junk,junk,junk,junk,junk,junk,junk,junk,junk,junk,junk,junk,junk,junk,junk,junk,junk,junk,junk,junk,junk,junk,junk,junk,junk,junk,junk,junk,junk,junk,junk,junk,junk,junk,junk,junk,junk,junk,junk,junk,junk,junk,junk,junk,junk,junk,junk,junk,junk,junk,junk,junk,junk] ∧ Ext K J) ?_ ?_
  · exact ⟨by rw [if_neg (by omega)]; simp [forget,bV],Ext.refl _⟩
  rintro k e J hk2 ⟨rfl,xJ⟩
  (refine yg ?_)
  refine cond_p rfl (fun hlt => ?_) (fun hge => ?_)
  rotate_left 1
  · obtain rfl : k = D.length := by omega
    rw [if_pos rfl]
    have j1 := (xAG.trans (xK.trans xJ)).cell a1
    have j2 := (xAG.trans (xK.trans xJ)).cell a2
    have hne : lastL (D.getD (D.length - 1) []) (Q.getD (D.length - 1) []) ≠ [] := fun hh => by
      obtain ⟨y,hy1,hy2⟩ := hD.some _ (getD_mem (d := []) (show D.length - 1 < D.length by omega))
      obtain ⟨i,hi,ei⟩ := List.getElem_of_mem hy1
      have e2 : (D.getD (D.length - 1) []).getD i 0 = y := by rw [List.getD_eq_getElem?_getD (l := D.getD (D.length - 1) []),List.getElem?_eq_getElem hi,Option.getD_some,ei]
      have := (mem_lastL (n := (Q.getD (D.length - 1) []).getD i 0) (r := D.getD (D.length - 1) []) (q := Q.getD (D.length - 1) []) (by rw [hD.row (by omega),hQrl _ (by omega)])).2 ⟨i,hi,by rw [e2]; exact hy2,rfl⟩
      rw [hh] at this
      cases this
    have eb : bV (lastL (D.getD (D.length - 1) []) (Q.getD (D.length - 1) [])) = bestL (lastL (D.getD (D.length - 1) []) (Q.getD (D.length - 1) [])) := by unfold bV; rw [if_neg hne]
    rw [eb]
    obtain ⟨bd,hbd⟩ : ∃ bd,bd = bestL (lastL (D.getD (D.length - 1) []) (Q.getD (D.length - 1) [])) := ⟨_,rfl⟩
    have s1 : storeR 1 (.pointer (some ⟨H.length + 1,0,none⟩)) (.int .i64 bd) J = some (undef,J.set (H.length + 1) (.cells true 0 [.int .i64 bd])) := store_pj j1 (by simp) rfl rfl
    have j2' : (J.set (H.length + 1) (.cells true 0 [.int .i64 bd]))[H.length + 2]? = some (.cells true 0 [.int .i64 0]) := by rw [List.getElem?_set_ne (by omega)]; exact j2
    have s2 : storeR 1 (.pointer (some ⟨H.length + 2,0,none⟩)) (.int .i64 0) (J.set (H.length + 1) (.cells true 0 [.int .i64 bd])) = some (undef,(J.set (H.length + 1) (.cells true 0 [.int .i64 bd])).set (H.length + 2) (.cells true 0 [.int .i64 0])) := store_pj j2' (by simp) rfl rfl
    rw [← hbd]
    (repeat(first|refine yw ?_|((first|apply yd|apply ye);simp (disch:=first|exact zz|fail) only[go_sem,s1,s2];with_reducible rfl)))
    have y1 : ((J.set (H.length + 1) (AObj.cells true 0 [.int .i64 bd])).set (H.length + 2) (AObj.cells true 0 [.int .i64 0]))[H.length + 1]? = some (.cells true 0 [.int .i64 bd]) := by rw [List.getElem?_set_ne (by omega)]; exact get_set_self j1
    have y2 := get_set_self (d := AObj.cells true 0 [.int .i64 0]) j2'
    refine fin_ooJ (u := .int .i64 bd) (w := .int .i64 0) ?_ ?_ ⟨by rw [show N - 1 = D.length - 1 by omega,← hbd],(((xA.trans xAG).trans (xK.trans xJ)).set (by omega) _).set (by omega) _⟩
    · exact (load_at (k := 0) y1).trans rfl
    · exact (load_at (k := 0) y2).trans rfl
  have hkD : k < D.length := by omega
  rw [if_neg (show ¬ k = D.length by omega)]
  have hDJ := hDK.ext xJ
  have hrow := hDJ.row hkD
  have hrl := hD.row hkD
  have hrl' : ((D.getD k []).length : Int) = (l.length : Int) := by rw [hrl]
  (repeat(first|refine yw ?_|((first|apply yd|apply ye);simp (disch:=first|exact zz|fail) only[go_sem,hDJ.len,hDJ.idx,hDJ.load,hrow.len,hrow.idx,hrow.load,hrl'];with_reducible rfl)))
  refine awp_loop_n [false,true,false,false,true,true,true,false,false,false,false,false,true,true,true,false,false,false,false,false,false,false,false,false,false,false,false,false,false,false,false,false,false,false,false,false,false,false,false,false,false,false,false,false,false,false,false,false,false,false,false,false,false,false,false,false,false,false,false,false,false,false,false,true,true,true,false,false,false,false,true,true,true,false,false,false,false,false,false,false,false,false,false,false,false,false,false,false,false,false,false,false,false,false,false,false,false,false,false,false,false,false,false,false,false,false,false,false,false,false,false,false,false,false,false,false,false,false,false,false,false,false,false,false] l.length (fun j e M => e = [junk,pv,junk,junk,.pointer (some ⟨H.length + 1,0,none⟩),.pointer (some ⟨H.length + 2,0,none⟩),.pointer (some ⟨ix,0,none⟩),junk,junk,junk,junk,junk,.int .i64 (bV (curL D Q k j)),.bool (decide (curL D Q k j ≠ [])),.int .i64 (k : Int),junk,junk,junk,junk,junk,junk,junk,junk,junk,junk,junk,junk,junk,junk,junk,junk,junk,junk,junk,junk,junk,junk,junk,junk,junk,junk,junk,junk,junk,junk,junk,junk,junk,junk,junk,junk,junk,junk,junk,junk,junk,junk,junk,junk,junk,junk,junk,junk,.slice d1 d2 d3,.int .i64 (D.length : Nat),.int .i64 (k : Int),junk,junk,junk,junk,ds.getD k undef,.int .i64 (l.length : Nat),.int .i64 (j : Int),junk,junk,junk,junk,junk,junk,junk,junk,junk,junk,junk,junk,junk,junk,junk,junk,junk,junk,junk,junk,junk,junk,junk,junk,junk,junk,junk,junk,junk,junk,junk,junk,junk,junk,junk,junk,junk,junk,junk,junk,junk,junk,junk,junk,junk,junk,junk,junk,junk,junk,junk] ∧ Ext J M) ?_ ?_
  · have e0 : curL D Q k 0 = [] := by unfold curL; split <;> simp [lastL,beforeL]
    exact ⟨by rw [e0]; simp [forget],Ext.refl _⟩
  rintro j e M hj ⟨rfl,xM⟩
  (refine yg ?_)
  refine cond_p rfl (fun hlt2 => ?_) (fun hge2 => ?_)
  rotate_left 1
  · obtain rfl : j = l.length := by omega
    have e0 : curL D Q k l.length = (if k + 1 = D.length then lastL (D.getD (D.length - 1) []) (Q.getD (D.length - 1) []) else []) := by
      unfold curL
      by_cases h : k + 1 = D.length
      · rw [if_pos h,if_pos h,show D.length - 1 = k by omega,List.take_of_length_le (by omega),List.take_of_length_le (by rw [hQrl k (by omega)]; exact Nat.le_refl _)]
      · rw [if_neg h,if_neg h]
    (refine yg ?_)
    exact ⟨by omega,by rw [e0]; simp [forget],xJ.trans xM⟩
  have hj' : j < l.length := by omega
  have hkN : k < N := by omega
  have hrM := hrow.ext xM
  obtain ⟨own,hown⟩ : ∃ own,own = (D.getD k []).getD j 0 := ⟨_,rfl⟩
  obtain ⟨pr,hpr⟩ : ∃ pr,pr = (Q.getD k []).getD j 0 := ⟨_,rfl⟩
  have hat := hD.at hkD hj'
  rw [← hown] at hat
  have hpb := hQb k hkN j hj'
  rw [← hpr] at hpb
  have hcur : curL D Q k (j + 1) = curL D Q k j ++ (if k + 1 = D.length then (if own = -1 then [] else [pr]) else []) := by
    unfold curL
    by_cases h : k + 1 = D.length
    · rw [if_pos h,if_pos h,if_pos h,lastL_snoc (by rw [hrl,hQrl k hkN]) (by omega),← hown,← hpr]
    · rw [if_neg h,if_neg h,if_neg h]; rfl
  by_cases hne : own = -1
  · have e1 : curL D Q k (j + 1) = curL D Q k j := by rw [hcur]; split <;> simp [hne]
    (repeat(first|refine yw ?_|((first|apply yd|apply ye);simp (disch:=first|exact zz|fail) only[go_sem,hrM.len,hrM.idx,hrM.load,← hown,store_n1,dec_t hne];with_reducible rfl)))
    refine cond_t rfl ?_
    (refine yg ?_)
    exact ⟨by omega,by rw [e1]; simp [forget],xM.app _⟩
  have hQM := hQG.ext (xK.trans (xJ.trans xM))
  have hqrow := hQM.row (k := k) (by omega)
  have hqrl : ((Q.getD k []).length : Int) = (l.length : Int) := by rw [hQrl k hkN]
  (repeat(first|refine yw ?_|((first|apply yd|apply ye);simp (disch:=first|exact zz|fail) only[go_sem,hrM.len,hrM.idx,hrM.load,← hown,store_n1,dec_f hne];with_reducible rfl)))
  refine cond_f rfl ?_
  obtain ⟨M1,hM1⟩ : ∃ M1,M1 = M ++ [AObj.cells true 0 [.int .i64 own]] := ⟨_,rfl⟩
  have m0 : M1[M.length]? = some (.cells true 0 [.int .i64 own]) := by rw [hM1]; exact at_new
  have y1 : Ext M M1 := by rw [hM1]; exact (Ext.refl M).app _
  rw [← hM1]
  clear hM1
  have hQ1 := hQM.ext y1
  have hq1 := hqrow.ext y1
  (repeat(first|refine yw ?_|((first|apply yd|apply ye);simp (disch:=first|exact zz|fail) only[go_sem,hQ1.len,hQ1.idx,hQ1.load,hq1.len,hq1.idx,hq1.load,← hpr,store_n1];with_reducible rfl)))
  obtain ⟨M2,hM2⟩ : ∃ M2,M2 = M1 ++ [AObj.cells true 0 [.int .i64 pr]] := ⟨_,rfl⟩
  have m1 : M2[M1.length]? = some (.cells true 0 [.int .i64 pr]) := by rw [hM2]; exact at_new
  have y2 : Ext M1 M2 := by rw [hM2]; exact (Ext.refl M1).app _
  have m0' := y2.cell m0
  rw [← hM2]
  clear hM2
  have xM2 := xM.trans (y1.trans y2)
  have mx := (xJ.trans xM2).cell kx
  -- no price is too great
  have hpr2 := hQat k hkN
  rw [hpr2] at hpr
  refine aops_mid [false,true,false,false,true,true,true,false,false,false,false,false,true,true,true,false,true,true,true,false,false,false,false,false,false,false,false,false,false,false,false,false,false,false,false,false,false,false,false,false,false,false,false,false,false,false,false,false,false,false,false,false,false,false,false,false,false,false,false,false,false,false,false,true,true,true,false,false,false,false,true,true,true,false,false,false,false,false,false,false,false,false,false,false,false,false,false,false,false,false,false,false,true,false,false,false,false,false,false,false,false,false,false,false,false,false,false,false,false,false,false,false,false,false,false,false,false,false,false,false,false,false,false,false] (fun e M3 => M2 = M3 ∧ e = [junk,pv,junk,junk,.pointer (some ⟨H.length + 1,0,none⟩),.pointer (some ⟨H.length + 2,0,none⟩),.pointer (some ⟨ix,0,none⟩),junk,junk,junk,junk,junk,.int .i64 (bV (curL D Q k j)),.bool (decide (curL D Q k j ≠ [])),.int .i64 (k : Int),junk,.int .i64 (j : Int),.pointer (some ⟨M.length,0,none⟩),.pointer (some ⟨M1.length,0,none⟩),junk,junk,junk,junk,junk,junk,junk,junk,junk,junk,junk,junk,junk,junk,junk,junk,junk,junk,junk,junk,junk,junk,junk,junk,junk,junk,junk,junk,junk,junk,junk,junk,junk,junk,junk,junk,junk,junk,junk,junk,junk,junk,junk,junk,.slice d1 d2 d3,.int .i64 (D.length : Nat),.int .i64 (k : Int),junk,junk,junk,junk,ds.getD k undef,.int .i64 (l.length : Nat),.int .i64 (j : Int),junk,junk,junk,junk,junk,junk,junk,junk,junk,junk,junk,junk,junk,junk,junk,junk,junk,junk,junk,.bool false,junk,junk,junk,junk,junk,junk,junk,junk,junk,junk,junk,junk,junk,junk,junk,junk,junk,junk,junk,junk,junk,junk,junk,junk,junk,junk,junk,junk,junk,junk,junk]) ?_ ?_
  · by_cases hk0 : k = 0
    · have epr : pr = own := by subst hk0; rw [hpr,priceR_zero (by omega),← hown,if_neg hne]
      (repeat(first|refine yw ?_|((first|apply yd|apply ye);simp (disch:=first|exact zz|fail) only[go_sem,dec_t (show (k : Int) = 0 by omega),load_at m0',load_at m1,dec_f (show ¬ own < pr by omega)];with_reducible rfl)))
      exact ⟨rfl,by simp [forget]⟩
    · (repeat(first|refine yw ?_|((first|apply yd|apply ye);simp (disch:=first|exact zz|fail) only[go_sem,dec_f (show ¬ (k : Int) = 0 by omega)];with_reducible rfl)))
      exact ⟨rfl,by simp [forget]⟩
  rintro e M3 ⟨rfl,rfl⟩
  (refine yg ?_)
  refine cond_f rfl ?_
  (refine yg ?_)
  refine awp_mid [false,true,false,false,true,true,true,false,false,false,false,false,true,true,true,false,false,false,true,false,false,false,false,false,false,false,false,false,false,false,false,false,false,false,false,false,false,false,false,false,false,false,false,false,false,false,false,false,false,false,false,false,false,false,false,false,false,false,false,false,false,false,false,true,true,true,false,false,false,false,true,true,true,false,false,false,false,false,false,false,false,false,false,false,false,false,false,false,false,false,false,false,false,false,false,false,false,false,false,false,false,false,false,false,false,false,false,false,false,false,false,false,false,false,false,false,false,false,false,false,false,false,false,false] (fun e M3 => Ext M2 M3 ∧ e = [junk,pv,junk,junk,.pointer (some ⟨H.length + 1,0,none⟩),.pointer (some ⟨H.length + 2,0,none⟩),.pointer (some ⟨ix,0,none⟩),junk,junk,junk,junk,junk,.int .i64 (bV (curL D Q k j)),.bool (decide (curL D Q k j ≠ [])),.int .i64 (k : Int),junk,junk,junk,.pointer (some ⟨M1.length,0,none⟩),junk,junk,junk,junk,junk,junk,junk,junk,junk,junk,junk,junk,junk,junk,junk,junk,junk,junk,junk,junk,junk,junk,junk,junk,junk,junk,junk,junk,junk,junk,junk,junk,junk,junk,junk,junk,junk,junk,junk,junk,junk,junk,junk,junk,.slice d1 d2 d3,.int .i64 (D.length : Nat),.int .i64 (k : Int),junk,junk,junk,junk,ds.getD k undef,.int .i64 (l.length : Nat),.int .i64 (j : Int),junk,junk,junk,junk,junk,junk,junk,junk,junk,junk,junk,junk,junk,junk,junk,junk,junk,junk,junk,junk,junk,junk,junk,junk,junk,junk,junk,junk,junk,junk,junk,junk,junk,junk,junk,junk,junk,junk,junk,junk,junk,junk,junk,junk,junk,junk,junk,junk,junk,junk,junk]) ?_ ?_
  · refine cond_p rfl (fun hk0 => ?_) (fun hk0 => ?_)
    rotate_left 1
    · (refine yg ?_)
      exact ⟨rfl,Ext.refl _,by simp [forget]⟩
    obtain ⟨q,rfl⟩ : ∃ q,k = q + 1 := ⟨k - 1,by omega⟩
    have hqq : q < D.length := by omega
    have hpT := hQat q (by omega)
    have hprl : (priceR c D q).length = l.length := by rw [priceR_len,hD.row hqq]
    have hpz := priceR_succ (c := c) (D := D) (k := q) (j := j) (by omega)
    rw [← hown,if_neg hne,← hpr] at hpz
    obtain ⟨o1,o2,o3,rfl⟩ : ∃ o1 o2 o3,pv = .slice o1 o2 o3 := by
      rcases hQ.1.2 with ⟨rfl,_⟩ | ⟨id,off,cc,rfl,_⟩
      · exact ⟨_,_,_,rfl⟩
      · exact ⟨_,_,_,rfl⟩
    (repeat(first|refine yw ?_|((first|apply yd|apply ye);simp (disch:=first|exact zz|fail) only[go_sem,loadN_at mx];with_reducible rfl)))
    refine aops_call_to (before_c (v := v) (dv := .slice d1 d2 d3) (pv := .slice o1 o2 o3) (a := (L : Int)) (b := (P : Int)) (c := c') (k := q + 1) (j := j) ha rfl ⟨_,_,_,rfl⟩) ?_
    obtain ⟨J2,hJ2⟩ : ∃ J2,J2 = M2 ++ [AObj.cells true 0 [v,.int .i64 (L : Int),.int .i64 (P : Int),.int .i64 c',.slice d1 d2 d3],AObj.cells true 0 [.int .i64 ((q + 1 : Nat) : Int)],AObj.cells true 0 [.int .i64 (j : Int)],AObj.cells true 0 [.slice o1 o2 o3]] := ⟨_,rfl⟩
    have q0' : J2[M2.length]? = some (.cells true 0 [v,.int .i64 (L : Int),.int .i64 (P : Int),.int .i64 c',.slice d1 d2 d3]) := by rw [hJ2]; simp
    have q1' : J2[M2.length + 1]? = some (.cells true 0 [.int .i64 ((q + 1 : Nat) : Int)]) := by rw [hJ2]; simp
    have q2' : J2[M2.length + 2]? = some (.cells true 0 [.int .i64 (j : Int)]) := by rw [hJ2]; simp
    have q3' : J2[M2.length + 3]? = some (.cells true 0 [.slice o1 o2 o3]) := by rw [hJ2]; simp
    have x2 : Ext M2 J2 := by rw [hJ2]; exact (Ext.refl M2).app _
    refine Eq.mp (congrArg (fun X => AOps _ _ _ _ X) hJ2) ?_
    clear hJ2
    have hgen := before1_c (idt := M2.length) (idk := M2.length + 1) (idp := M2.length + 3) (idj := M2.length + 2) (v := v) (dv := .slice d1 d2 d3) (pv := .slice o1 o2 o3) (a := (L : Int)) (b := (P : Int)) (c := c') (k := q) (j := j) (D := D) (Q := Q) (ds := ds) (ps := ps) ha rfl (by omega) hqq (by omega) (by omega) (by rw [hQrl q (by omega),hD.row hqq]) (by rw [hQrl q (by omega)]; omega) (fun i hi => by
      have := hQb q (by omega) i (by rw [hQrl q (by omega)] at hi; exact hi)
      omega)
    rw [hpT] at hgen
    have hitems : ∀ n ∈ beforeL c' j 0 (D.getD q []) (priceR c D q),pr ≤ n + own ∧ 0 ≤ n ∧ n ≤ 700000000 := fun n hn => by
      obtain ⟨i,h1,h2,rfl⟩ := (mem_beforeL (by rw [hprl,hD.row hqq])).1 hn
      have hil : i < l.length := by rw [hD.row hqq] at h1; exact h1
      have hb := hQb q (by omega) i hil
      rw [hpT] at hb
      have g1 : 0 ≤ chgN c (0 + i) j ∧ chgN c (0 + i) j ≤ chgN c' (0 + i) j ∧ chgN c' (0 + i) j ≤ 1000000 := by unfold chgN; split <;> omega
      have hm := (mem_beforeL (c := c) (j := j) (n := (priceR c D q).getD i 0 + chgN c (0 + i) j) (r := D.getD q []) (q := priceR c D q) (k := 0) (by rw [hprl,hD.row hqq])).2 ⟨i,h1,h2,rfl⟩
      have hall : ∀ m ∈ beforeL c j 0 (D.getD q []) (priceR c D q),0 ≤ m := fun m hm => by
        obtain ⟨i',h1',h2',rfl⟩ := (mem_beforeL (by rw [hprl,hD.row hqq])).1 hm
        have hb' := hQb q (by omega) i' (by rw [hD.row hqq] at h1'; exact h1')
        rw [hpT] at hb'
        have : 0 ≤ chgN c (0 + i') j := by unfold chgN; split <;> omega
        omega
      have hs := (bestL_spec hall (fun e => by rw [e] at hm; cases hm)).2 _ hm
      omega
    (refine yg ?_)
    refine awp_rangeA mo rfl (fun l h => by cases h) hgen
      (fun rest H' => ∃ tl,rest = itemsV tl ∧ (∀ n ∈ tl,pr ≤ n + own ∧ 0 ≤ n ∧ n ≤ 700000000) ∧ Ext J2 H') (fun _ _ => False) ?_ (fun _ _ _ h => h.elim) ?_ ?_ ?_ ?_ (fun _ _ _ h => h.elim)
    · rintro rest H' cc ⟨tl,h1,h2,h3⟩
      exact ⟨tl,h1,h2,h3.set (Nat.le_refl _) _⟩
    · rintro rest H' ⟨tl,h1,h2,h3⟩
      exact ⟨h3.cell q0',h3.cell q1',h3.cell q3',h3.cell q2',hDJ.ext (xM2.trans (x2.trans h3)),hQM.ext (y1.trans (y2.trans (x2.trans h3)))⟩
    · intro NN
      exact ⟨_,rfl,hitems,(Ext.refl J2).app NN⟩
    · rintro aa rest H3 ⟨tl,h1,h2,h3⟩ hlt3
      match tl,h1 with
      | n :: tl,h1 =>
      obtain ⟨rfl,rfl⟩ := List.cons.inj h1
      refine ⟨rfl,fun R Rb hRl hR => ?_⟩
      simp only [assignParams,List.zip_cons_cons,List.zip_nil_left,List.foldl_cons,List.foldl_nil]
      (refine yg ?_)
      refine ⟨rfl,hR,?_⟩
      have hRb := get_set_self (d := Rb) hR
      have x3 : Ext J2 (H3.set J2.length Rb) := h3.set (Nat.le_refl _) _
      have hnn := h2 n (List.mem_cons_self ..)
      generalize (H3.set J2.length Rb : AHeap) = GG at hRb x3
      have w0 := (x2.trans x3).cell m0'
      have w1 := (x2.trans x3).cell m1
      (repeat(first|refine yw ?_|((first|apply yd|apply ye);simp (disch:=first|exact zz|fail) only[go_sem,load_at w0,load_at w1,dec_f (show ¬ n + own < pr by omega)];with_reducible rfl)))
      refine cond_f rfl ?_
      (refine yg ?_)
      exact rounded_n hRb ⟨tl,rfl,fun m hm => h2 m (List.mem_cons_of_mem _ hm),x3⟩
    · rintro H' ⟨tl,h1,h2,h3⟩
      (refine yg ?_)
      exact ⟨rfl,x2.trans h3,by simp [forget,Env.put]⟩
  rintro e M3 ⟨x3,rfl⟩
  have w1 := x3.cell m1
  have hQ3 := hQM.ext (y1.trans (y2.trans x3))
  have hfin : ∀ {M4 : AHeap},Ext M3 M4 → Ext J M4 := fun h => xM2.trans (x3.trans h)
  have hcn : ∀ n ∈ curL D Q k j,0 ≤ n := fun n hn => by
    unfold curL at hn
    split at hn
    · obtain ⟨i,h1,h2,rfl⟩ := (mem_lastL (by rw [List.length_take,List.length_take,hrl,hQrl k hkN])).1 hn
      rw [List.length_take] at h1
      have := hQb k hkN i (by omega)
      rw [List.getD_eq_getElem?_getD (l := List.take j (Q.getD k [])),List.getElem?_take_of_lt (by omega),← List.getD_eq_getElem?_getD]
      exact this.1
    · cases hn
  by_cases hlast : k + 1 = D.length
  rotate_left 1
  · have e1 : curL D Q k (j + 1) = curL D Q k j := by rw [hcur,if_neg hlast,List.append_nil]
    (repeat(first|refine yw ?_|((first|apply yd|apply ye);simp (disch:=first|exact zz|fail) only[go_sem,hQ3.len,hQ3.idx,hQ3.load,eQD,dec_f (show ¬ (k : Int) = (D.length : Int) - 1 by omega)];with_reducible rfl)))
    refine cond_f rfl ?_
    (refine yg ?_)
    exact ⟨by omega,by rw [e1]; simp [forget],hfin (Ext.refl _)⟩
  rw [if_pos hlast,if_neg hne] at hcur
  have hbv := bV_snoc (x := pr) hcn
  rw [← hcur] at hbv
  have hne2 : curL D Q k (j + 1) ≠ [] := by rw [hcur]; simp
  have e13 : decide (curL D Q k (j + 1) ≠ []) = true := dec_t hne2
  by_cases hce : curL D Q k j = []
  · rw [if_pos hce] at hbv
    (repeat(first|refine yw ?_|((first|apply yd|apply ye);simp (disch:=first|exact zz|fail) only[go_sem,hQ3.len,hQ3.idx,hQ3.load,eQD,dec_t (show (k : Int) = (D.length : Int) - 1 by omega),dec_f (show ¬ curL D Q k j ≠ [] from fun h => h hce)];with_reducible rfl)))
    refine cond_t rfl ?_
    (repeat(first|refine yw ?_|((first|apply yd|apply ye);simp (disch:=first|exact zz|fail) only[go_sem,load_at w1];with_reducible rfl)))
    exact ⟨by omega,by rw [hbv,e13]; simp [forget],hfin (Ext.refl _)⟩
  rw [if_neg hce] at hbv
  (repeat(first|refine yw ?_|((first|apply yd|apply ye);simp (disch:=first|exact zz|fail) only[go_sem,hQ3.len,hQ3.idx,hQ3.load,eQD,dec_t (show (k : Int) = (D.length : Int) - 1 by omega),dec_t (show curL D Q k j ≠ [] from hce),load_at w1];with_reducible rfl)))
  refine cond_p rfl (fun hlt4 => ?_) (fun hge4 => ?_)
  · rw [if_pos hlt4] at hbv
    (repeat(first|refine yw ?_|((first|apply yd|apply ye);simp (disch:=first|exact zz|fail) only[go_sem,load_at w1];with_reducible rfl)))
    exact ⟨by omega,by rw [hbv,e13]; simp [forget],hfin (Ext.refl _)⟩
  · rw [if_neg hge4] at hbv
    (refine yg ?_)
    exact ⟨by omega,by rw [hbv,e13]; simp [forget,hce],hfin (Ext.refl _)⟩
end
end Go.Lq

namespace Go.Lq
open Go
open Go.Proofs
theorem swapA_set' (n : Nat) (l : List Int) (h : n + 1 < l.length) : (l.set n (l.getD (n + 1) 0)).set (n + 1) (l.getD n 0) = swapA n l := by
  rw [List.set_comm _ _ (by omega)]
  exact swapA_set n l h
theorem Fst.last {l : List Int} {x : Int} (h : Fst l l.length) : Fst (l ++ [x]) l.length := fun a b h1 h2 => by
  have := h a b h1 h2
  rwa [List.getD_eq_getElem?_getD,List.getD_eq_getElem?_getD,← List.getElem?_append_left (l₂ := [x]) (show a < l.length by omega),← List.getElem?_append_left (l₂ := [x]) h2,← List.getD_eq_getElem?_getD,← List.getD_eq_getElem?_getD] at this
theorem OwnI.ext2 {H0 H H' : AHeap} {l : List Int} {v : Value} (h : OwnI H0 H l v) (hx : Ext H H') : OwnI H0 H' l v := by
  obtain ⟨N,rfl⟩ := hx
  exact h.app N
def medsT (l : List Tr) (n : Nat) : List Int := (List.range n).map fun p : Nat => medT l (p : Int)
theorem medsT_succ (l : List Tr) (n : Nat) : medsT l (n + 1) = medsT l n ++ [medT l (n : Int)] := by simp [medsT,List.range_succ]
theorem medsT_len (l : List Tr) (n : Nat) : (medsT l n).length = n := by simp [medsT]
theorem medsT_at {l : List Tr} {n p : Nat} (h : p < n) : (medsT l n).getD p 0 = medT l (p : Int) := by
  unfold medsT
  rw [List.getD_eq_getElem?_getD,List.getElem?_map,List.getElem?_range h]; rfl
section
variable {H : AHeap}
theorem at_c {t : Tr} {u : Value} {p : Int} (hu : Ints H t.s u) (hh : t.has p = true) (hp : -1000000 ≤ p ∧ p ≤ 1000000) (hl : -100 ≤ t.lag ∧ t.lag ≤ 100) :
    ACall Go.Proofs.Tryz.prog 61 [trV t u,.int .i64 p] H fun v H' => v = .int .i64 (t.at p) ∧ H' = H := by
  refine ACall.drop (.int _ _) ?_
  unfold trV
  have h : 0 ≤ p + t.lag ∧ p + t.lag ≤ (t.s.length : Int) - 1 := by simpa [Tr.has] using hh
  (refine a61 ?_; simp only [n61,List.replicate,List.length_cons,List.length_nil,List.cons_append,List.nil_append]; first | refine Go.Lq.q1 ?_ | refine Go.Lq.q2 ?_ | refine Go.Lq.q6 ?_ | refine Go.Lq.q7 ?_ | refine Go.Lq.qh rfl ?_ | skip)
  have hu1 := hu.ext ((Ext.refl H).app [.cells true 0 [.string (bs t.nm),.int .i64 t.lag,u]])
  (repeat(first|refine yw ?_|((first|apply yd|apply ye);simp (disch:=first|exact zz|fail) only[go_sem,hu1.len,hu1.idx,hu1.load,box_tr (ints_atom hu)];with_reducible rfl)))
  exact fin_1 ⟨rfl,(Ext.refl H).app _⟩
set_option maxRecDepth 100000 in
set_option maxHeartbeats 8000000 in
theorem refMedian_c {l : List Tr} {us : List Value} {v : Value} {n : Nat} (hT : Trs H l us v) (ho : TrsOk l) (hn : n ≤ 200) (hne : ∀ p : Nat,p < n → pres l (p : Int) ≠ []) :
    ACall Go.Proofs.Tryz.prog 39 [v,.int .i64 (n : Int)] H fun w H' => ∃ mv,w = .tuple #[mv,.bool true] ∧ OwnI H H' (medsT l n) mv ∧ Ext H H' := by
  obtain ⟨n1,n2⟩ := ho.len
  (refine a39 ?_; simp only [n39,List.replicate,List.length_cons,List.length_nil,List.cons_append,List.nil_append]; first | refine Go.Lq.q1 ?_ | refine Go.Lq.q2 ?_ | refine Go.Lq.q6 ?_ | refine Go.Lq.q7 ?_ | refine Go.Lq.qh rfl ?_ | skip)
  (refine yg ?_)
  refine awp_loop_n [true,true,false,false,false,false,true,true,false,false,false,false,false,false,false,false,false,false,false,false,false,false,false,false,false,false,false,false,false,false,false,false,false,false,false,false,false,false,false,false,false,false,false,false,false,false,false,false,false,false,false,false,false,false,false,false,false,false,false,false,false,false,false,false,false,false,false,false,false,false,false,false,false,false,false,false,false,false,false,false,false,false,false,false,false,false,false,false,false,false,false,false,false,false,false,false,false,false,false,false,false,false,false,false,false,false] n (fun p e B => ∃ ov,e = [v,.int .i64 (n : Int),junk,junk,junk,junk,ov,.int .i64 (p : Int),junk,junk,junk,junk,junk,junk,junk,junk,junk,junk,junk,junk,junk,junk,junk,junk,junk,junk,junk,junk,junk,junk,junk,junk,junk,junk,junk,junk,junk,junk,junk,junk,junk,junk,junk,junk,junk,junk,junk,junk,junk,junk,junk,junk,junk,junk,junk,junk,junk,junk,junk,junk,junk,junk,junk,junk,junk,junk,junk,junk,junk,junk,junk,junk,junk,junk,junk,junk,junk,junk,junk,junk,junk,junk,junk,junk,junk,junk,junk,junk,junk,junk,junk,junk,junk,junk,junk,junk,junk,junk,junk,junk,junk,junk,junk,junk,junk,junk] ∧ OwnI H B (medsT l p) ov ∧ Ext H B) ?_ ?_
  · exact ⟨.slice none 0 0,by simp [forget],by simp [medsT]; exact OwnI.nil _ _,Ext.refl _⟩
  rintro p e B hp ⟨ov,rfl,oB,xB⟩
  (refine yg ?_)
  refine cond_p rfl (fun hlt => ?_) (fun hge => ?_)
  rotate_left 1
  · obtain rfl : p = n := by omega
    (refine yg ?_)
    exact fin_2 ⟨ov,rfl,oB,xB⟩
  have hpn : p < n := by omega
  have hTB := hT.ext xB
  (refine yg ?_)
  refine awp_loop_n [true,true,false,false,false,false,true,true,true,true,false,false,false,false,false,false,false,false,false,false,false,false,false,false,false,false,false,false,false,false,false,false,false,false,false,false,false,false,false,false,false,false,false,false,false,false,false,false,false,false,false,false,false,false,false,false,false,false,false,false,false,false,false,false,false,false,false,false,false,false,false,false,false,false,false,false,false,false,false,false,false,false,false,false,false,false,false,false,false,false,false,false,false,false,false,false,false,false,false,false,false,false,false,false,false,false] l.length (fun i e J => ∃ sv m,e = [v,.int .i64 (n : Int),junk,junk,junk,junk,ov,.int .i64 (p : Int),sv,.int .i64 (i : Int),junk,junk,junk,junk,junk,junk,junk,junk,junk,junk,junk,junk,junk,junk,junk,junk,junk,junk,junk,junk,junk,junk,junk,junk,junk,junk,junk,junk,junk,junk,junk,junk,junk,junk,junk,junk,junk,junk,junk,junk,junk,junk,junk,junk,junk,junk,junk,junk,junk,junk,junk,junk,junk,junk,junk,junk,junk,junk,junk,junk,junk,junk,junk,junk,junk,junk,junk,junk,junk,junk,junk,junk,junk,junk,junk,junk,junk,junk,junk,junk,junk,junk,junk,junk,junk,junk,junk,junk,junk,junk,junk,junk,junk,junk,junk,junk] ∧ OwnI B J m sv ∧ Ext B J ∧ m.Perm (pres (l.take i) (p : Int)) ∧ Fst m m.length) ?_ ?_
  · exact ⟨.slice none 0 0,[],by simp [forget],OwnI.nil _ _,Ext.refl _,by simp [pres],fun a b h1 h2 => by simp at h2⟩
  rintro i e J hi ⟨sv,m,rfl,oJ,xJ,pm,fm⟩
  have hTJ := hTB.ext xJ
  (repeat(first|refine yw ?_|((first|apply yd|apply ye);simp (disch:=first|exact zz|fail) only[go_sem,hTJ.len,hTJ.idx,hTJ.load];with_reducible rfl)))
  refine cond_p rfl (fun hlt2 => ?_) (fun hge2 => ?_)
  · have hi' : i < l.length := by omega
    have hr := hTJ.row hi'
    have ok := ho.ok i hi'
    have hs := pres_snoc hi' (p : Int)
    have hmle := pres_len (l.take i) (p : Int)
    have htl : (l.take i).length ≤ 6 := by simp; omega
    have hml := pm.length_eq
    (repeat(first|refine yw ?_|((first|apply yd|apply ye);simp (disch:=first|exact zz|fail) only[go_sem,hTJ.len,hTJ.idx,hTJ.load];with_reducible rfl)))
    refine aops_call_to (has_c (t := l.getD i tr0) (p := (p : Int)) hr (by omega) ok.lag (by have := ok.len; omega)) ?_
    cases hh : (l.getD i tr0).has (p : Int) with
    | false =>
      rw [hh,if_neg (by decide)] at hs
      (refine yg ?_)
      refine cond_t rfl ?_
      (refine yg ?_)
      exact ⟨by omega,sv,m,by simp [forget],oJ,xJ,by rw [hs]; exact pm,fm⟩
    | true =>
      rw [hh,if_pos rfl] at hs
      (refine yg ?_)
      refine cond_f rfl ?_
      (repeat(first|refine yw ?_|((first|apply yd|apply ye);simp (disch:=first|exact zz|fail) only[go_sem,hTJ.len,hTJ.idx,hTJ.load];with_reducible rfl)))
      refine aops_call_to (at_c (t := l.getD i tr0) (p := (p : Int)) hr hh (by omega) ok.lag) ?_
      obtain ⟨x,hx⟩ : ∃ x,x = (l.getD i tr0).at (p : Int) := ⟨_,rfl⟩
      rw [← hx] at hs ⊢
      have hpu := oJ.push (by omega) x
      have oP := oJ.pushed xJ x
      have xP := oJ.ext xJ x
      have hPi := oP.ints
      have hPl : ((m ++ [x]).length : Int) = (m.length : Int) + 1 := by simp
      (repeat(first|refine yw ?_|((first|apply yd|apply ye);simp (disch:=first|exact zz|fail) only[go_sem,hpu];with_reducible rfl)))
      (repeat(first|refine yw ?_|((first|apply yd|apply ye);simp (disch:=first|exact zz|fail) only[go_sem,hPi.len,hPi.idx,hPi.load,hPl];with_reducible rfl)))
      refine awp_loop_n [true,true,false,false,false,false,true,true,true,true,true,false,false,false,false,false,false,false,false,false,false,false,false,false,false,false,false,false,false,false,false,false,false,false,false,false,false,false,false,false,false,false,false,false,false,false,false,false,false,false,false,false,false,false,false,false,false,false,false,false,false,false,false,false,false,false,false,false,false,false,false,false,false,false,false,false,false,false,false,false,false,false,false,false,false,false,false,false,false,false,false,false,false,false,false,false,false,false,false,false,false,false,false,false,false,false] m.length (fun k e J' => ∃ m',e = [v,.int .i64 (n : Int),junk,junk,junk,junk,ov,.int .i64 (p : Int),pushV (J) m.length,.int .i64 (i : Int),.int .i64 ((m.length - k : Nat) : Int),junk,junk,junk,junk,junk,junk,junk,junk,junk,junk,junk,junk,junk,junk,junk,junk,junk,junk,junk,junk,junk,junk,junk,junk,junk,junk,junk,junk,junk,junk,junk,junk,junk,junk,junk,junk,junk,junk,junk,junk,junk,junk,junk,junk,junk,junk,junk,junk,junk,junk,junk,junk,junk,junk,junk,junk,junk,junk,junk,junk,junk,junk,junk,junk,junk,junk,junk,junk,junk,junk,junk,junk,junk,junk,junk,junk,junk,junk,junk,junk,junk,junk,junk,junk,junk,junk,junk,junk,junk,junk,junk,junk,junk,junk,junk] ∧ OwnI B J' m' (pushV J m.length) ∧ Ext B J' ∧ m'.Perm (m ++ [x]) ∧ InsAt m' m.length (m.length - k)) ?_ ?_
      · exact ⟨m ++ [x],by simp [forget],oP,xP,List.Perm.refl _,InsAt.start fm.last⟩
      clear hpu oP xP hPi hPl
      rintro k e J' hk ⟨m',rfl,o2,x2,p2,a2⟩
      have ml := p2.length_eq
      rw [List.length_append,List.length_singleton] at ml
      have hm := o2.ints
      obtain ⟨j,hj⟩ : ∃ j,j = m.length - k := ⟨_,rfl⟩
      rw [← hj] at a2 ⊢
      have done : Fst m' (m.length + 1) → m'.Perm (pres (l.take (i + 1)) (p : Int)) ∧ Fst m' m'.length := fun h => ⟨by rw [hs]; exact p2.trans (pm.append_right _),by rw [ml]; exact h⟩
      cases j with
      | zero =>
        (repeat(first|refine yw ?_|((first|apply yd|apply ye);simp (disch:=first|exact zz|fail) only[go_sem,dec_f (show ¬ (0 : Int) < ((0 : Nat) : Int) by decide)];with_reducible rfl)))
        refine cond_f rfl ?_
        (refine yg ?_)
        exact ⟨by omega,_,m',by simp [forget],o2,x2,done (a2.done (by omega) (.inl rfl))⟩
      | succ q =>
        have e1 : ((q + 1 : Nat) : Int) - 1 = (q : Int) := by omega
        (repeat(first|refine yw ?_|((first|apply yd|apply ye);simp (disch:=first|exact zz|fail) only[go_sem,hm.len,hm.idx,hm.load,dec_t (show (0 : Int) < ((q + 1 : Nat) : Int) by omega),e1];with_reducible rfl)))
        refine cond_p rfl (fun hlt3 => ?_) (fun hge3 => ?_)
        · have s1 := o2.store (k := q) (by omega) (m'.getD (q + 1) 0)
          have o3 := o2.stored (m'.set q (m'.getD (q + 1) 0)) (by simp)
          have s2 := o3.store (k := q + 1) (by simp; omega) (m'.getD q 0)
          have o4 := o3.stored ((m'.set q (m'.getD (q + 1) 0)).set (q + 1) (m'.getD q 0)) (by simp)
          have x3 := o3.ext_set (o2.ext_set x2 _) ((m'.set q (m'.getD (q + 1) 0)).set (q + 1) (m'.getD q 0))
          rw [swapA_set' q m' (by omega)] at s2 o4 x3
          (repeat(first|refine yw ?_|((first|apply yd|apply ye);simp (disch:=first|exact zz|fail) only[go_sem,hm.len,hm.idx,hm.load,e1,s1,s2];with_reducible rfl)))
          exact ⟨by omega,swapA q m',by simp [forget]; omega,o4,x3,(swapA_perm q m').trans p2,by rw [show m.length - (k + 1) = q by omega]; exact a2.step (by omega) (by omega) hlt3⟩
        · (refine yg ?_)
          exact ⟨by omega,_,m',by simp [forget],o2,x2,done (a2.done (by omega) (.inr (by simpa using hge3)))⟩
  obtain rfl : i = l.length := by omega
  rw [List.take_length] at pm
  have em := fm.eq pm
  have hml := pm.length_eq
  have hmi := oJ.ints
  have hpos : 0 < (pres l (p : Int)).length := List.length_pos_iff.2 (hne p hpn)
  have hle := pres_len l (p : Int)
  have oJ' := oB.ext2 xJ
  have xHJ := xB.trans xJ
  have hpu := oJ'.push (by rw [medsT_len]; omega) (medT l (p : Int))
  have oP := oJ'.pushed xHJ (medT l (p : Int))
  have xP := oJ'.ext xHJ (medT l (p : Int))
  rw [← medsT_succ] at oP
  have hb := fun k => sortI_bound (b := 32767) (by decide) (pres_bound ho (p : Int)) k
  rw [← em] at hb
  have er : (m.length : Int).tmod 2 = ((m.length % 2 : Nat) : Int) := by rw [Int.tmod_eq_emod_of_nonneg (by omega)]; rfl
  have eq' : (m.length : Int).tdiv 2 = ((m.length / 2 : Nat) : Int) := by rw [Int.tdiv_eq_ediv_of_nonneg (by omega)]; rfl
  (repeat(first|refine yw ?_|((first|apply yd|apply ye);simp (disch:=first|exact zz|fail) only[go_sem,hmi.len,hmi.idx,hmi.load,dec_f (show ¬ (m.length : Int) = 0 by omega)];with_reducible rfl)))
  refine cond_f rfl ?_
  by_cases hodd : m.length % 2 = 1
  · have e2 : m.getD (m.length / 2) 0 = medT l (p : Int) := by
      unfold medT
      rw [medI_odd (by rw [← hml]; exact hodd),← em,hml]
    (repeat(first|refine yw ?_|((first|apply yd|apply ye);simp (disch:=first|exact zz|fail) only[go_sem,er,dec_t (show ((m.length % 2 : Nat) : Int) = 1 by omega)];with_reducible rfl)))
    refine cond_t rfl ?_
    (repeat(first|refine yw ?_|((first|apply yd|apply ye);simp (disch:=first|exact zz|fail) only[go_sem,hmi.len,hmi.idx,hmi.load,eq',e2,hpu];with_reducible rfl)))
    exact ⟨by omega,_,by simp [forget],oP,xP⟩
  · have e2 : (m.getD (m.length / 2 - 1) 0 + m.getD (m.length / 2) 0) / 2 = medT l (p : Int) := by
      unfold medT
      rw [medI_even (by rw [← hml]; omega),← em,hml]
    have e3 : ((m.length / 2 : Nat) : Int) - 1 = ((m.length / 2 - 1 : Nat) : Int) := by omega
    have hb1 := hb (m.length / 2 - 1)
    have hb2 := hb (m.length / 2)
    (repeat(first|refine yw ?_|((first|apply yd|apply ye);simp (disch:=first|exact zz|fail) only[go_sem,er,dec_f (show ¬ ((m.length % 2 : Nat) : Int) = 1 by omega)];with_reducible rfl)))
    refine cond_f rfl ?_
    (repeat(first|refine yw ?_|((first|apply yd|apply ye);simp (disch:=first|exact zz|fail) only[go_sem,hmi.len,hmi.idx,hmi.load,eq',e3];with_reducible rfl)))
    (refine adraw_call (N := []) (firstD (bfloor_c (m.getD (m.length / 2 - 1) 0 + m.getD (m.length / 2) 0) 2 (by omega) (by omega))) ?_; rw [List.append_nil])
    (repeat(first|refine yw ?_|((first|apply yd|apply ye);simp (disch:=first|exact zz|fail) only[go_sem,e2,hpu];with_reducible rfl)))
    exact ⟨by omega,_,by simp [forget],oP,xP⟩
end
end Go.Lq

namespace Go.Lq
open Go
open Go.Proofs
theorem pres_task {l : List Tr} {N P : Nat} {c : Int} (hk : TaskOk l N P c) : ∀ p : Nat,p < N * P → pres l (p : Int) ≠ [] := fun p hp => by
  have hP := hk.P1
  obtain ⟨i,hi,hc⟩ := hk.gap (p / P) ((Nat.div_lt_iff_lt_mul (by omega)).2 hp)
  have := cov_at hc (Nat.mod_lt p (show 0 < P by omega))
  have e : p / P * P + p % P = p := by rw [Nat.mul_comm]; exact Nat.div_add_mod p P
  rw [e] at this
  have hm : (l.getD i tr0).at (p : Int) ∈ pres l (p : Int) := List.mem_map.2 ⟨_,List.mem_filter.2 ⟨getD_mem hi,this⟩,rfl⟩
  intro e
  rw [e] at hm
  cases hm
theorem validC_at : ∀ {D : List (List Int)} {a : List Nat},ValidC D a → ∀ k,k < D.length → a.getD k 0 < (D.getD k []).length ∧ (D.getD k []).getD (a.getD k 0) 0 ≠ -1
  | [],a,_,k,hk => absurd hk (by simp)
  | r :: rs,[],h,_,_ => h.elim
  | r :: rs,i :: a,h,0,_ => ⟨h.1,h.2.1⟩
  | r :: rs,i :: a,h,k + 1,hk => validC_at h.2.2 k (by simpa using hk)
theorem validC_take : ∀ {D : List (List Int)} {a : List Nat},ValidC D a → ∀ k,ValidC (D.take k) (a.take k)
  | _,_,_,0 => by simp [ValidC]
  | [],a,h,k + 1 => by cases h; exact rfl
  | r :: rs,[],h,_ + 1 => h.elim
  | r :: rs,i :: a,h,k + 1 => ⟨h.1,h.2.1,validC_take h.2.2 k⟩
theorem dev_at {l : List Tr} {P N k i : Nat} (hk : k < N) (hi : i < l.length) : ((devTab l P N).getD k []).getD i 0 = devE l P k (l.getD i tr0) := by
  have e : (devTab l P N).getD k [] = dRow l P k := by
    unfold devTab
    rw [List.getD_eq_getElem?_getD,List.getElem?_map,List.getElem?_range hk]; rfl
  rw [e]
  unfold dRow
  rw [List.getD_eq_getElem?_getD,List.getElem?_map,List.getD_eq_getElem?_getD,List.getElem?_eq_getElem hi]
  rfl
theorem nm_inj {l : List Tr} (ho : TrsOk l) {i j : Nat} (hi : i < l.length) (hj : j < l.length) : (l.getD i tr0).nm = (l.getD j tr0).nm ↔ i = j := by
  refine ⟨fun h => ?_,fun h => by rw [h]⟩
  rcases Nat.lt_trichotomy i j with h1 | h1 | h1
  · exact absurd h (ho.dis j i h1 hj)
  · exact h1
  · exact absurd h.symm (ho.dis i j h1 hi)
theorem namesT_len (l : List Tr) (a : List Nat) : (namesT l a).length = a.length := by simp [namesT]
theorem namesT_at {l : List Tr} {a : List Nat} {k : Nat} (hk : k < a.length) : (namesT l a).getD k [] = (l.getD (a.getD k 0) tr0).nm := by
  unfold namesT
  rw [List.getD_eq_getElem?_getD,List.getElem?_map,List.getD_eq_getElem?_getD (l := a),List.getElem?_eq_getElem hk]; rfl
theorem take_snocN {a : List Nat} {k : Nat} (hk : k < a.length) : a.take (k + 1) = a.take k ++ [a.getD k 0] := by
  rw [List.take_add_one,List.getElem?_eq_getElem hk,List.getD_eq_getElem?_getD,List.getElem?_eq_getElem hk]; rfl
theorem last_take {a : List Nat} {k : Nat} (hk : k + 1 ≤ a.length) : (a.take (k + 1)).getLast? = some (a.getD k 0) := by
  rw [take_snocN (by omega)]; simp
theorem numC_snoc : ∀ (p : Option Nat) (xs : List Nat) (i : Nat),numC p (xs ++ [i]) = numC p xs + chgC 1 (match xs.getLast? with | none => p | some a => some a) i
  | p,[],i => by simp [numC]
  | p,x :: xs,i => by
    have ih := numC_snoc (some x) xs i
    simp only [List.cons_append,numC]
    rw [ih]
    have e : (match (x :: xs).getLast? with | none => p | some a => some a) = (match xs.getLast? with | none => some x | some a => some a) := by
      cases xs with
      | nil => rfl
      | cons y ys => rw [List.getLast?_cons_cons]; cases h : (y :: ys).getLast? with
        | none => simp at h
        | some z => rfl
    rw [e]
    omega
section
variable {H : AHeap}
theorem refIndex_c {l : List Tr} {us : List Value} {v : Value} {x y z : Int} {i : Nat} (hT : Trs H l us v) (ho : TrsOk l) (hi : i < l.length) :
    ACall Go.Proofs.Tryz.prog 32 [.agg ⟨[v,.int .i64 x,.int .i64 y,.int .i64 z]⟩,.string (bs (l.getD i tr0).nm)] H fun w H' => w = .int .i64 (i : Int) ∧ H' = H := by
  refine ACall.drop (.int _ _) ?_
  have hn := ho.len
  (refine a32 ?_; simp only [n32,List.replicate,List.length_cons,List.length_nil,List.cons_append,List.nil_append]; first | refine Go.Lq.q1 ?_ | refine Go.Lq.q2 ?_ | refine Go.Lq.q6 ?_ | refine Go.Lq.q7 ?_ | refine Go.Lq.qh rfl ?_ | skip)
  obtain ⟨A,hA⟩ : ∃ A,A = H ++ [AObj.cells true 0 [v,.int .i64 x,.int .i64 y,.int .i64 z]] := ⟨_,rfl⟩
  have a0 : A[H.length]? = some (.cells true 0 [v,.int .i64 x,.int .i64 y,.int .i64 z]) := by rw [hA]; exact at_new
  have xA : Ext H A := by rw [hA]; exact (Ext.refl H).app _
  (repeat(first|refine yw ?_|((first|apply yd|apply ye);simp (disch:=first|exact zz|fail) only[go_sem,box_tk hT.atom];with_reducible rfl)))
  rw [← hA]
  clear hA
  have hTA := hT.ext xA
  (refine yg ?_)
  refine awp_loop_n [false,true,true,false,false,true,false,false,false,false,false,false,false,false,false,false,false,false,false,false,false,false] i (fun k e J => A = J ∧ e = [junk,.string (bs (l.getD i tr0).nm),.pointer (some ⟨H.length,0,none⟩),junk,junk,.int .i64 (k : Int),junk,junk,junk,junk,junk,junk,junk,junk,junk,junk,junk,junk,junk,junk,junk,junk]) ?_ ?_
  · exact ⟨rfl,by simp [forget]⟩
  rintro k e J hk ⟨rfl,rfl⟩
  (repeat(first|refine yw ?_|((first|apply yd|apply ye);simp (disch:=first|exact zz|fail) only[go_sem,hTA.len,hTA.idx,hTA.load,load_at a0,dec_t (show (k : Int) < (l.length : Int) by omega)];with_reducible rfl)))
  refine cond_t rfl ?_
  by_cases hki : k = i
  · subst hki
    (repeat(first|refine yw ?_|((first|apply yd|apply ye);simp (disch:=first|exact zz|fail) only[go_sem,hTA.len,hTA.idx,hTA.load,load_at a0];with_reducible rfl)))
    refine cond_t (by simp [evalA]) ?_
    (refine yg ?_)
    exact fin_1 ⟨rfl,xA⟩
  · have hne := ho.dis i k (by omega) hi
    have hkl : k < l.length := by omega
    (repeat(first|refine yw ?_|((first|apply yd|apply ye);simp (disch:=first|exact zz|fail) only[go_sem,hTA.len,hTA.idx,hTA.load,load_at a0,dec_f hne];with_reducible rfl)))
    refine cond_f rfl ?_
    (refine yg ?_)
    exact ⟨by omega,rfl,by simp [forget]⟩
theorem refPassages_c {v : Value} {N P : Nat} {z : Int} (hv : isAtom v = true) (hP : 1 ≤ P) (hN : N * P ≤ 1000000) :
    ACall Go.Proofs.Tryz.prog 31 [.agg ⟨[v,.int .i64 ((N * P : Nat) : Int),.int .i64 (P : Int),.int .i64 z]⟩] H fun w H' => w = .int .i64 (N : Int) ∧ H' = H := by
  refine ACall.drop (.int _ _) ?_
  have eq' : ((N * P : Nat) : Int).tdiv (P : Int) = (N : Int) := by rw [Int.tdiv_eq_ediv_of_nonneg (by omega),Int.natCast_mul]; exact Int.mul_ediv_cancel _ (by omega)
  have hNb : N ≤ 1000000 := by have := Nat.le_mul_of_pos_right N (show 0 < P by omega); omega
  obtain ⟨L,hL⟩ : ∃ L,N * P = L := ⟨_,rfl⟩
  rw [hL] at eq' hN ⊢
  have hne : (P : Int) ≠ 0 := by omega
  (refine a31 ?_; simp only [n31,List.replicate,List.length_cons,List.length_nil,List.cons_append,List.nil_append]; first | refine Go.Lq.q1 ?_ | refine Go.Lq.q2 ?_ | refine Go.Lq.q6 ?_ | refine Go.Lq.q7 ?_ | refine Go.Lq.qh rfl ?_ | skip)
  (repeat(first|refine yw ?_|((first|apply yd|apply ye);simp (disch:=first|exact zz|fail) only[go_sem,box_tk hv,eq'];with_reducible rfl)))
  exact fin_1 ⟨rfl,(Ext.refl H).app _⟩
set_option maxHeartbeats 2000000 in
theorem refDev_c {l : List Tr} {us : List Value} {v mv : Value} {x z : Int} {N P i k : Nat} (hT : Trs H l us v) (ho : TrsOk l) (hi : i < l.length) (hM : Ints H (medsT l (N * P)) mv) (hk : k < N) (hN1000 : N ≤ 1000) (hNP : N * P ≤ 200) (hc : (l.getD i tr0).cov P k = true) :
    ACall Go.Proofs.Tryz.prog 40 [.agg ⟨[v,.int .i64 x,.int .i64 (P : Int),.int .i64 z]⟩,mv,.int .i64 (i : Int),.int .i64 (k : Int)] H fun w H' => w = .int .i64 (devE l P k (l.getD i tr0)) ∧ H' = H := by
  refine ACall.drop (.int _ _) ?_
  have hle : k * P + P ≤ N * P := by
    have := Nat.mul_le_mul_right P (show k + 1 ≤ N from hk)
    rw [Nat.succ_mul] at this; exact this
  have ok := ho.ok i hi
  have hde : devE l P k (l.getD i tr0) = sumN (devF l P k (l.getD i tr0)) P := by unfold devE; rw [if_pos hc]
  rw [hde]
  have e1 : (k : Int) * (P : Int) = ((k * P : Nat) : Int) := (Int.natCast_mul k P).symm
  have e2 : ((k : Int) + 1) * (P : Int) = ((k * P + P : Nat) : Int) := by rw [Int.add_mul,Int.one_mul,Int.natCast_add,Int.natCast_mul]
  have hMl := medsT_len l (N * P)
  have hMat : ∀ p,p < N * P → (medsT l (N * P)).getD p 0 = medT l (p : Int) := fun p h => medsT_at h
  have hcov := fun j (hj : j < P) => cov_at hc hj
  have hdf : ∀ j,devF l P k (l.getD i tr0) j = max ((l.getD i tr0).at ((k * P + j : Nat) : Int) - medT l ((k * P + j : Nat) : Int)) (-((l.getD i tr0).at ((k * P + j : Nat) : Int) - medT l ((k * P + j : Nat) : Int))) := fun j => rfl
  obtain ⟨m,hm⟩ : ∃ m,m = k * P := ⟨_,rfl⟩
  obtain ⟨L,hL⟩ : ∃ L,N * P = L := ⟨_,rfl⟩
  rw [hL] at hle hMl hNP hM hMat
  rw [← hm] at hle e1 e2
  simp only [← hm] at hcov hdf
  (refine a40 ?_; simp only [n40,List.replicate,List.length_cons,List.length_nil,List.cons_append,List.nil_append]; first | refine Go.Lq.q1 ?_ | refine Go.Lq.q2 ?_ | refine Go.Lq.q6 ?_ | refine Go.Lq.q7 ?_ | refine Go.Lq.qh rfl ?_ | skip)
  obtain ⟨A,hA⟩ : ∃ A,A = H ++ [AObj.cells true 0 [v,.int .i64 x,.int .i64 (P : Int),.int .i64 z]] := ⟨_,rfl⟩
  have a0 : A[H.length]? = some (.cells true 0 [v,.int .i64 x,.int .i64 (P : Int),.int .i64 z]) := by rw [hA]; exact at_new
  have xA : Ext H A := by rw [hA]; exact (Ext.refl H).app _
  (repeat(first|refine yw ?_|((first|apply yd|apply ye);simp (disch:=first|exact zz|fail) only[go_sem,box_tk hT.atom];with_reducible rfl)))
  rw [← hA]
  clear hA
  have hTA := hT.ext xA
  have hMA := hM.ext xA
  (repeat(first|refine yw ?_|((first|apply yd|apply ye);simp (disch:=first|exact zz|fail) only[go_sem,load_at a0,e1];with_reducible rfl)))
  refine awp_loop_n [false,true,true,true,true,false,false,false,false,true,true,false,false,false,false,false,false,false,false,false,false,false,false,false,false,false,false,false,false,false,false,false,false,false,false,false,false,false,false,false] P (fun j e J => A = J ∧ e = [junk,mv,.int .i64 (i : Int),.int .i64 (k : Int),.pointer (some ⟨H.length,0,none⟩),junk,junk,junk,junk,.int .i64 (sumN (devF l P k (l.getD i tr0)) j),.int .i64 ((m + j : Nat) : Int),junk,junk,junk,junk,junk,junk,junk,junk,junk,junk,junk,junk,junk,junk,junk,junk,junk,junk,junk,junk,junk,junk,junk,junk,junk,junk,junk,junk,junk]) ?_ ?_
  · exact ⟨rfl,by simp [forget,sumN,e1]⟩
  rintro j e J hj ⟨rfl,rfl⟩
  (repeat(first|refine yw ?_|((first|apply yd|apply ye);simp (disch:=first|exact zz|fail) only[go_sem,load_at a0,e2];with_reducible rfl)))
  refine cond_p rfl (fun hlt => ?_) (fun hge => ?_)
  rotate_left 1
  · obtain rfl : j = P := by omega
    (refine yg ?_)
    exact fin_1 ⟨rfl,xA⟩
  have hj' : j < P := by omega
  have hr := hTA.row hi
  have hsb := sumN_bound (f := devF l P k (l.getD i tr0)) (n := j) fun q _ => devF_bound ho ok P k q
  have hdb := devF_bound ho ok P k j
  have h1 := at_bound ok ((m + j : Nat) : Int)
  have h2 := medT_bound ho ((m + j : Nat) : Int)
  have hMj := hMat (m + j) (by omega)
  have ed := hdf j
  (repeat(first|refine yw ?_|((first|apply yd|apply ye);simp (disch:=first|exact zz|fail) only[go_sem,hTA.len,hTA.idx,hTA.load,hMA.len,hMA.idx,hMA.load,load_at a0];with_reducible rfl)))
  (refine adraw_call (N := []) (firstD (at_c (t := l.getD i tr0) (u := us.getD i undef) (p := ((m + j : Nat) : Int)) hr (hcov j hj') (by omega) ok.lag)) ?_; rw [List.append_nil])
  (repeat(first|refine yw ?_|((first|apply yd|apply ye);simp (disch:=first|exact zz|fail) only[go_sem,hMA.len,hMA.idx,hMA.load,hMj];with_reducible rfl)))
  (refine adraw_call (N := []) (firstD (bsize_c ((l.getD i tr0).at ((m + j : Nat) : Int) - medT l ((m + j : Nat) : Int)) (by omega))) ?_; rw [List.append_nil])
  rw [← ed]
  (refine yg ?_)
  exact ⟨by omega,rfl,by simp [forget,sumN]; omega⟩
set_option maxHeartbeats 2000000 in
theorem refChoice_c {l : List Tr} {us : List Value} {v sv : Value} {N P : Nat} {c : Int} {a : List Nat} (hT : Trs H l us v) (hk : TaskOk l N P c) (hv : ValidC (devTab l P N) a) (hS : Txts H (namesT l a) sv) :
    ACall Go.Proofs.Tryz.prog 10 [.agg ⟨[v,.int .i64 ((N * P : Nat) : Int),.int .i64 (P : Int),.int .i64 c]⟩,sv] H fun w H' => w = .int .i64 0 ∧ H' = H := by
  refine ACall.drop (.int _ _) ?_
  have ho := hk.trs
  have hP := task_P hk
  have hN := hk.N1
  have hal : a.length = N := by rw [validC_len hv,devTab_len]
  have hpas := fun (J : AHeap) => refPassages_c (H := J) (v := v) (N := N) (P := P) (z := c) hT.atom hk.P1 (by have := hk.len; omega)
  have hdl : ∀ k,k < N → a.getD k 0 < l.length ∧ (l.getD (a.getD k 0) tr0).cov P k = true := fun k hkN => by
    obtain ⟨h1,h2⟩ := validC_at hv k (by rw [devTab_len]; exact hkN)
    have hl : a.getD k 0 < l.length := by rw [(devTab_ok hk).row (by rw [devTab_len]; exact hkN)] at h1; exact h1
    rw [dev_at hkN hl] at h2
    exact ⟨hl,(devE_ne ho (ho.ok _ hl) hP).1 h2⟩
  obtain ⟨L,hL⟩ : ∃ L,N * P = L := ⟨_,rfl⟩
  rw [hL] at hpas ⊢
  (refine a10 ?_; simp only [n10,List.replicate,List.length_cons,List.length_nil,List.cons_append,List.nil_append]; first | refine Go.Lq.q1 ?_ | refine Go.Lq.q2 ?_ | refine Go.Lq.q6 ?_ | refine Go.Lq.q7 ?_ | refine Go.Lq.qh rfl ?_ | skip)
  obtain ⟨A,hA⟩ : ∃ A,A = H ++ [AObj.cells true 0 [v,.int .i64 (L : Int),.int .i64 (P : Int),.int .i64 c]] := ⟨_,rfl⟩
  have a0 : A[H.length]? = some (.cells true 0 [v,.int .i64 (L : Int),.int .i64 (P : Int),.int .i64 c]) := by rw [hA]; exact at_new
  have xA : Ext H A := by rw [hA]; exact (Ext.refl H).app _
  (repeat(first|refine yw ?_|((first|apply yd|apply ye);simp (disch:=first|exact zz|fail) only[go_sem,box_tk hT.atom];with_reducible rfl)))
  rw [← hA]
  clear hA
  have hTA := hT.ext xA
  have hSA := hS.ext xA
  have hSl : ((namesT l a).length : Int) = (N : Int) := by rw [namesT_len,hal]
  (repeat(first|refine yw ?_|((first|apply yd|apply ye);simp (disch:=first|exact zz|fail) only[go_sem,hSA.len,hSA.idx,hSA.load,loadN_at a0,hSl];with_reducible rfl)))
  (refine aops_call_to (hpas A) ?_)
  (refine yg ?_)
  refine cond_f rfl ?_
  (refine yg ?_)
  refine awp_loop_n [false,true,true,false,false,true,false,false,false,false,false,false,false,false,false,false,false,false,false,false,false,false,false,false,false,false,false,false,false,false,false] N (fun k e J => A = J ∧ e = [junk,sv,.pointer (some ⟨H.length,0,none⟩),junk,junk,.int .i64 (k : Int),junk,junk,junk,junk,junk,junk,junk,junk,junk,junk,junk,junk,junk,junk,junk,junk,junk,junk,junk,junk,junk,junk,junk,junk,junk]) ?_ ?_
  · exact ⟨rfl,by simp [forget]⟩
  rintro k e J hk2 ⟨rfl,rfl⟩
  (repeat(first|refine yw ?_|((first|apply yd|apply ye);simp (disch:=first|exact zz|fail) only[go_sem,hSA.len,hSA.idx,hSA.load,hSl];with_reducible rfl)))
  refine cond_p rfl (fun hlt => ?_) (fun hge => ?_)
  rotate_left 1
  · (refine yg ?_)
    exact fin_1 ⟨rfl,xA⟩
  have hkN : k < N := by omega
  obtain ⟨hi,hcov⟩ := hdl k hkN
  have hnk := namesT_at (l := l) (a := a) (k := k) (by omega)
  (repeat(first|refine yw ?_|((first|apply yd|apply ye);simp (disch:=first|exact zz|fail) only[go_sem,hSA.len,hSA.idx,hSA.load,hSl,loadN_at a0,hnk];with_reducible rfl)))
  (refine adraw_call (N := []) (firstD (refIndex_c (x := (L : Int)) (y := (P : Int)) (z := c) hTA ho hi)) ?_; rw [List.append_nil])
  (refine yg ?_)
  refine cond_f rfl ?_
  (repeat(first|refine yw ?_|((first|apply yd|apply ye);simp (disch:=first|exact zz|fail) only[go_sem,loadN_at a0];with_reducible rfl)))
  have hcc := covers_c (len := (L : Int)) (c := c) (P := P) (i := a.getD k 0) (k := k) hTA ho hi hP (by omega)
  rw [hcov] at hcc
  (refine aops_call_to (hcc) ?_)
  (refine yg ?_)
  refine cond_f rfl ?_
  (refine yg ?_)
  exact ⟨by omega,rfl,by simp [forget]⟩
set_option maxHeartbeats 4000000 in
theorem refCost_c {l : List Tr} {us : List Value} {v sv : Value} {N P : Nat} {c : Int} {a : List Nat} (hT : Trs H l us v) (hk : TaskOk l N P c) (hv : ValidC (devTab l P N) a) (hS : Txts H (namesT l a) sv) :
    ACall Go.Proofs.Tryz.prog 13 [.agg ⟨[v,.int .i64 ((N * P : Nat) : Int),.int .i64 (P : Int),.int .i64 c]⟩,sv] H fun w H' => w = .int .i64 (costC c none (devTab l P N) a) ∧ H' = H := by
  refine ACall.drop (.int _ _) ?_
  have ho := hk.trs
  have hP := task_P hk
  have hN := hk.N1
  obtain ⟨hc1,hc2⟩ := hk.chg
  have hDl := devTab_len l P N
  have hD := devTab_ok hk
  have hal : a.length = N := by rw [validC_len hv,devTab_len]
  have hdl : ∀ k,k < N → a.getD k 0 < l.length ∧ (l.getD (a.getD k 0) tr0).cov P k = true := fun k hkN => by
    obtain ⟨h1,h2⟩ := validC_at hv k (by rw [devTab_len]; exact hkN)
    have hl : a.getD k 0 < l.length := by rw [hD.row (by rw [devTab_len]; exact hkN)] at h1; exact h1
    rw [dev_at hkN hl] at h2
    exact ⟨hl,(devE_ne ho (ho.ok _ hl) hP).1 h2⟩
  have hmed := fun (J : AHeap) (hx : Ext H J) => refMedian_c (n := N * P) (hT.ext hx) ho hk.len (pres_task hk)
  (refine a13 ?_; simp only [n13,List.replicate,List.length_cons,List.length_nil,List.cons_append,List.nil_append]; first | refine Go.Lq.q1 ?_ | refine Go.Lq.q2 ?_ | refine Go.Lq.q6 ?_ | refine Go.Lq.q7 ?_ | refine Go.Lq.qh rfl ?_ | skip)
  obtain ⟨A,hA⟩ : ∃ A,A = H ++ [AObj.cells true 0 [v,.int .i64 ((N * P : Nat) : Int),.int .i64 (P : Int),.int .i64 c]] := ⟨_,rfl⟩
  have a0 : A[H.length]? = some (.cells true 0 [v,.int .i64 ((N * P : Nat) : Int),.int .i64 (P : Int),.int .i64 c]) := by rw [hA]; exact at_new
  have xA : Ext H A := by rw [hA]; exact (Ext.refl H).app _
  (repeat(first|refine yw ?_|((first|apply yd|apply ye);simp (disch:=first|exact zz|fail) only[go_sem,box_tk hT.atom];with_reducible rfl)))
  rw [← hA]
  clear hA
  (repeat(first|refine yw ?_|((first|apply yd|apply ye);simp (disch:=first|exact zz|fail) only[go_sem,load_at a0];with_reducible rfl)))
  refine aops_call ((hmed A xA).mono fun w K ⟨mv,ew,oM,xK⟩ => ?_)
  subst ew
  have k0 := xK.cell a0
  have hTK := hT.ext (xA.trans xK)
  have hSK := hS.ext (xA.trans xK)
  have hMK := oM.ints
  have hSl : ((namesT l a).length : Int) = (N : Int) := by rw [namesT_len,hal]
  (refine yg ?_)
  refine awp_loop_n [false,true,true,false,false,true,false,true,true,false,false,false,false,false,false,false,false,false,false,false,false,false,false,false,false,false,false,false,false,false,false,false,false,false,false,false,false,false,false,false,false,false,false,false,false,false,false,false,false,false,false,false,false,false] N (fun k e J => K = J ∧ e = [junk,sv,.pointer (some ⟨H.length,0,none⟩),junk,junk,mv,junk,.int .i64 (costC c none ((devTab l P N).take k) (a.take k)),.int .i64 (k : Int),junk,junk,junk,junk,junk,junk,junk,junk,junk,junk,junk,junk,junk,junk,junk,junk,junk,junk,junk,junk,junk,junk,junk,junk,junk,junk,junk,junk,junk,junk,junk,junk,junk,junk,junk,junk,junk,junk,junk,junk,junk,junk,junk,junk,junk]) ?_ ?_
  · exact ⟨rfl,by simp [forget,costC]⟩
  rintro k e J hk2 ⟨rfl,rfl⟩
  (repeat(first|refine yw ?_|((first|apply yd|apply ye);simp (disch:=first|exact zz|fail) only[go_sem,hSK.len,hSK.idx,hSK.load,hSl];with_reducible rfl)))
  refine cond_p rfl (fun hlt => ?_) (fun hge => ?_)
  rotate_left 1
  · obtain rfl : k = N := by omega
    have hdone : costC c none ((devTab l P k).take k) (a.take k) = costC c none (devTab l P k) a := by rw [List.take_of_length_le (by omega),List.take_of_length_le (by omega)]
    (refine yg ?_)
    exact fin_1 ⟨by rw [← hdone]; rfl,xA.trans xK⟩
  have hkN : k < N := by omega
  obtain ⟨hi,hcov⟩ := hdl k hkN
  have hnk := namesT_at (l := l) (a := a) (k := k) (by omega)
  have hcb := costC_bound (p := none) hc1 (by decide : (0 : Int) ≤ 13106800) (hD.take k) (validC_take hv k)
  have hcb2 : costC c none ((devTab l P N).take k) (a.take k) ≤ 600000000 := by
    have h1 : ((13106800 : Int) + c) * (((devTab l P N).take k).length : Int) ≤ 30000000 * 20 := Int.mul_le_mul (by omega) (by rw [List.length_take]; omega) (by omega) (by decide)
    omega
  have hdb := devE_bound ho (ho.ok _ hi) (P := P) (k := k) hP
  have hval := dev_at (P := P) (N := N) hkN hi
  have et := take_snocD (D := devTab l P N) (k := k) (by omega)
  have ea := take_snocN (a := a) (k := k) (by omega)
  have hsn := costC_snoc c none ((devTab l P N).take k) (a.take k) ((devTab l P N).getD k []) (a.getD k 0) (by simp; omega)
  rw [← et,← ea,hval] at hsn
  obtain ⟨S,hSe⟩ : ∃ S,S = costC c none ((devTab l P N).take k) (a.take k) := ⟨_,rfl⟩
  rw [← hSe] at hcb hcb2 hsn ⊢
  obtain ⟨dv,hdv⟩ : ∃ dv,dv = devE l P k (l.getD (a.getD k 0) tr0) := ⟨_,rfl⟩
  have hdc := refDev_c (x := ((N * P : Nat) : Int)) (z := c) hTK ho hi hMK hkN (by omega) hk.len hcov
  rw [← hdv] at hdb hsn hdc
  (repeat(first|refine yw ?_|((first|apply yd|apply ye);simp (disch:=first|exact zz|fail) only[go_sem,hSK.len,hSK.idx,hSK.load,hSl,loadN_at k0,hnk];with_reducible rfl)))
  (refine adraw_call (N := []) (firstD (refIndex_c (x := ((N * P : Nat) : Int)) (y := (P : Int)) (z := c) hTK ho hi)) ?_; rw [List.append_nil])
  (refine yg ?_)
  (refine adraw_call (N := []) (firstD (hdc)) ?_; rw [List.append_nil])
  cases k with
  | zero =>
    have hsn' : costC c none ((devTab l P N).take (0 + 1)) (a.take (0 + 1)) = S + dv := by rw [hsn]; simp [chgC]
    (repeat(first|refine yw ?_|((first|apply yd|apply ye);simp (disch:=first|exact zz|fail) only[go_sem,dec_f (show ¬ (0 : Int) < ((0 : Nat) : Int) by decide)];with_reducible rfl)))
    refine cond_f rfl ?_
    (refine yg ?_)
    exact ⟨by omega,rfl,by rw [hsn']; simp [forget]⟩
  | succ q =>
    have hnq := namesT_at (l := l) (a := a) (k := q) (by omega)
    obtain ⟨hiq,_⟩ := hdl q (by omega)
    have e1 : ((q + 1 : Nat) : Int) - 1 = (q : Int) := by omega
    rw [last_take (by omega)] at hsn
    by_cases hsame : a.getD (q + 1) 0 = a.getD q 0
    · have hsn' : costC c none ((devTab l P N).take (q + 1 + 1)) (a.take (q + 1 + 1)) = S + dv := by rw [hsn]; simp only [chgC]; rw [if_pos hsame.symm]; omega
      (refine yg ?_)
      (repeat(first|refine yw ?_|((first|apply yd|apply ye);simp (disch:=first|exact zz|fail) only[go_sem,hSK.len,hSK.idx,hSK.load,hSl,dec_t (show (0 : Int) < ((q + 1 : Nat) : Int) by omega),hnk,hnq,e1,dec_f (show ¬ (l.getD (a.getD (q + 1) 0) tr0).nm ≠ (l.getD (a.getD q 0) tr0).nm from fun h => h ((nm_inj ho hi hiq).2 hsame))];with_reducible rfl)))
      refine cond_f rfl ?_
      (refine yg ?_)
      exact ⟨by omega,rfl,by rw [hsn']; simp [forget]⟩
    · have hsn' : costC c none ((devTab l P N).take (q + 1 + 1)) (a.take (q + 1 + 1)) = S + dv + c := by rw [hsn]; simp only [chgC]; rw [if_neg (fun h => hsame h.symm)]
      (refine yg ?_)
      (repeat(first|refine yw ?_|((first|apply yd|apply ye);simp (disch:=first|exact zz|fail) only[go_sem,hSK.len,hSK.idx,hSK.load,hSl,dec_t (show (0 : Int) < ((q + 1 : Nat) : Int) by omega),hnk,hnq,e1,dec_t (show (l.getD (a.getD (q + 1) 0) tr0).nm ≠ (l.getD (a.getD q 0) tr0).nm from fun h => hsame ((nm_inj ho hi hiq).1 h))];with_reducible rfl)))
      refine cond_t rfl ?_
      (repeat(first|refine yw ?_|((first|apply yd|apply ye);simp (disch:=first|exact zz|fail) only[go_sem,load_at k0];with_reducible rfl)))
      exact ⟨by omega,rfl,by rw [hsn']; simp [forget]⟩
theorem joinChanges_c {l : List Tr} {sv : Value} {a : List Nat} (ho : TrsOk l) (ha : ∀ k,k < a.length → a.getD k 0 < l.length) (h0 : 0 < a.length) (hb : a.length ≤ 1000) (hS : Txts H (namesT l a) sv) :
    ACall Go.Proofs.Tryz.prog 14 [sv] H fun w H' => w = .int .i64 (numC none a) ∧ H' = H := by
  (refine a14 ?_; simp only [n14,List.replicate,List.length_cons,List.length_nil,List.cons_append,List.nil_append]; first | refine Go.Lq.q1 ?_ | refine Go.Lq.q2 ?_ | refine Go.Lq.q6 ?_ | refine Go.Lq.q7 ?_ | refine Go.Lq.qh rfl ?_ | skip)
  have hSl : ((namesT l a).length : Int) = (a.length : Int) := by rw [namesT_len]
  have hnb : ∀ k,k ≤ a.length → 0 ≤ numC none (a.take k) ∧ numC none (a.take k) ≤ k := fun k => by
    induction k with
    | zero => intro _; simp [numC]
    | succ k ih =>
      intro hk
      have := ih (by omega)
      rw [take_snocN (show k < a.length by omega),numC_snoc]
      have hg : ∀ p i,0 ≤ chgC 1 p i ∧ chgC 1 p i ≤ 1 := fun p i => by
        cases p with
        | none => simp [chgC]
        | some j => simp only [chgC]; split <;> omega
      have := hg (match (a.take k).getLast? with | none => none | some a => some a) (a.getD k 0)
      push_cast
      omega
  (refine yg ?_)
  refine awp_loop_n [true,false,false,true,true,false,false,false,false,false,false,false,false,false,false,false,false,false,false,false,false,false,false,false] a.length (fun k e J => J = H ∧ k + 1 ≤ a.length + 1 ∧ e = [sv,junk,junk,.int .i64 (numC none (a.take (k + 1))),.int .i64 ((k + 1 : Nat) : Int),junk,junk,junk,junk,junk,junk,junk,junk,junk,junk,junk,junk,junk,junk,junk,junk,junk,junk,junk]) ?_ ?_
  · refine ⟨rfl,by omega,?_⟩
    rw [take_snocN h0]
    simp [forget,numC,chgC]
  rintro k e J hk ⟨rfl,_,rfl⟩
  (repeat(first|refine yw ?_|((first|apply yd|apply ye);simp (disch:=first|exact zz|fail) only[go_sem,hS.len,hS.idx,hS.load,hSl];with_reducible rfl)))
  refine cond_p rfl (fun hlt => ?_) (fun hge => ?_)
  rotate_left 1
  · have hdone : numC none (a.take (k + 1)) = numC none a := by rw [List.take_of_length_le (by omega)]
    (refine yg ?_)
    exact fin_1 ⟨by rw [← hdone]; rfl,rfl⟩
  have hk' : k + 1 < a.length := by omega
  have hn1 := namesT_at (l := l) (a := a) (k := k + 1) hk'
  have hn2 := namesT_at (l := l) (a := a) (k := k) (by omega)
  have e1 : ((k + 1 : Nat) : Int) - 1 = (k : Int) := by omega
  have hsn := numC_snoc none (a.take (k + 1)) (a.getD (k + 1) 0)
  rw [← take_snocN hk',last_take (by omega)] at hsn
  have hb1 := hnb (k + 1) (by omega)
  by_cases hsame : a.getD (k + 1) 0 = a.getD k 0
  · have hsn' : numC none (a.take (k + 1 + 1)) = numC none (a.take (k + 1)) := by rw [hsn]; simp only [chgC]; rw [if_pos hsame.symm]; omega
    (repeat(first|refine yw ?_|((first|apply yd|apply ye);simp (disch:=first|exact zz|fail) only[go_sem,hS.len,hS.idx,hS.load,hSl,hn1,hn2,e1,dec_f (show ¬ (l.getD (a.getD (k + 1) 0) tr0).nm ≠ (l.getD (a.getD k 0) tr0).nm from fun h => h ((nm_inj ho (ha _ hk') (ha k (by omega))).2 hsame))];with_reducible rfl)))
    refine cond_f rfl ?_
    (refine yg ?_)
    exact ⟨by omega,rfl,by omega,by rw [hsn']; simp [forget]⟩
  · have hsn' : numC none (a.take (k + 1 + 1)) = numC none (a.take (k + 1)) + 1 := by rw [hsn]; simp only [chgC]; rw [if_neg (fun h => hsame h.symm)]
    (repeat(first|refine yw ?_|((first|apply yd|apply ye);simp (disch:=first|exact zz|fail) only[go_sem,hS.len,hS.idx,hS.load,hSl,hn1,hn2,e1,dec_t (show (l.getD (a.getD (k + 1) 0) tr0).nm ≠ (l.getD (a.getD k 0) tr0).nm from fun h => hsame ((nm_inj ho (ha _ hk') (ha k (by omega))).1 h))];with_reducible rfl)))
    refine cond_t rfl ?_
    (refine yg ?_)
    exact ⟨by omega,rfl,by omega,by rw [hsn']; simp [forget]⟩
end
end Go.Lq

namespace Go.Lq
open Go
open Go.Proofs
theorem flatTr_set : ∀ (l : List Tr) (us : List Value) (i : Nat) (u : Value),us.length = l.length → i < l.length → (flatTr l us).set (i * 3 + 2) u = flatTr l (us.set i u)
  | [],us,i,u,_,hi => absurd hi (by simp)
  | t :: l,[],i,u,h,_ => by simp at h
  | t :: l,u0 :: us,0,u,h,_ => rfl
  | t :: l,u0 :: us,i + 1,u,h,hi => by
    rw [show (i + 1) * 3 + 2 = (i * 3 + 2) + 1 + 1 + 1 by omega]
    simp only [flatTr,List.set_cons_succ]
    rw [flatTr_set l us i u (by simpa using h) (by simpa using hi)]
theorem isAtom_flatTr {l : List Tr} {us : List Value} (h : ∀ u ∈ us,isAtom u = true) : (flatTr l us).all isAtom = true := by
  induction l generalizing us with
  | nil => cases us <;> rfl
  | cons t l ih =>
    cases us with
    | nil => rfl
    | cons u us =>
      simp only [flatTr,List.all_cons]
      rw [ih fun x hx => h x (List.mem_cons_of_mem _ hx),h u (List.mem_cons_self ..)]
      rfl
theorem Trs.atoms {H : AHeap} {l : List Tr} {us : List Value} {v : Value} (h : Trs H l us v) : ∀ u ∈ us,isAtom u = true := fun u hu => by
  obtain ⟨i,hi,e⟩ := List.getElem_of_mem hu
  have := ints_atom (h.row (i := i) (by have := h.1; omega))
  rwa [List.getD_eq_getElem?_getD,List.getElem?_eq_getElem hi,Option.getD_some,e] at this
section
variable {H : AHeap}
set_option maxHeartbeats 4000000 in
theorem copyTrs_c {l : List Tr} {us : List Value} {v : Value} (hT : Trs H l us v) (hb : l.length ≤ 6) (hl : ∀ i,i < l.length → (l.getD i tr0).s.length ≤ 1000000) :
    ACall Go.Proofs.Tryz.prog 21 [v] H fun w H' => ∃ vs a n d,w = .slice a n d ∧ Ext H H' ∧ ∀ J : AHeap,(∀ q,H.length ≤ q → q < H'.length → J[q]? = H'[q]?) → Trs J l vs w := by
  (refine a21 ?_; simp only [n21,List.replicate,List.length_cons,List.length_nil,List.cons_append,List.nil_append]; first | refine Go.Lq.q1 ?_ | refine Go.Lq.q2 ?_ | refine Go.Lq.q6 ?_ | refine Go.Lq.q7 ?_ | refine Go.Lq.qh rfl ?_ | skip)
  have hms : mkSliceL 3 0 (some []) H = some (.slice (some ⟨H.length,0,none⟩) 0 0,H ++ [.cells true 3 []]) := rfl
  obtain ⟨av,K,ha,xK,aid,rfl,haid,hcell⟩ := append_copy (bytes := 48) hT.2.1 (isAtom_flatTr hT.atoms) (roomOk_of (by omega) (by omega))
  (repeat(first|refine yw ?_|((first|apply yd|apply ye);simp (disch:=first|exact zz|fail) only[go_sem,hms,ha];with_reducible rfl)))
  refine awp_loop_n [false,false,false,true,true,false,false,false,false,false,false,false,false,false,false,false,false,false,false,false,false,false,false,false,false] l.length (fun i e J => ∃ vs : List Value,e = [junk,junk,junk,.slice (some ⟨aid,0,none⟩) l.length l.length,.int .i64 (i : Int),junk,junk,junk,junk,junk,junk,junk,junk,junk,junk,junk,junk,junk,junk,junk,junk,junk,junk,junk,junk] ∧ Ext H J ∧ vs.length = l.length ∧ J[aid]? = some (.cells true 3 (flatTr l vs)) ∧ ∀ k,k < l.length → (i ≤ k → Ints H (l.getD k tr0).s (vs.getD k undef)) ∧ (k < i → ∀ J' : AHeap,(∀ q,H.length ≤ q → q ≠ aid → q < J.length → J'[q]? = J[q]?) → Ints J' (l.getD k tr0).s (vs.getD k undef))) ?_ ?_
  · refine ⟨us,by simp [forget],xK,hT.1,hcell,fun k hk => ⟨fun _ => hT.row hk,fun h => absurd h (by omega)⟩⟩
  rintro i e J hi ⟨vs,rfl,xJ,hvl,hc,hrows⟩
  have hTJ : Trs J l vs (.slice (some ⟨aid,0,none⟩) l.length l.length) := ⟨hvl,Sl.of hc (flatTr_len hvl),fun k hk => by
    rcases Nat.lt_or_ge k i with h | h
    · exact (hrows k hk).2 h J fun _ _ _ _ => rfl
    · exact ((hrows k hk).1 h).ext xJ⟩
  (repeat(first|refine yw ?_|((first|apply yd|apply ye);simp (disch:=first|exact zz|fail) only[go_sem,hTJ.len,hTJ.idx,hTJ.load];with_reducible rfl)))
  refine cond_p rfl (fun hlt => ?_) (fun hge => ?_)
  rotate_left 1
  · (refine yg ?_)
    have hlt0 : aid < J.length := (List.getElem?_eq_some_iff.1 hc).1
    exact fin_1 ⟨vs,_,_,_,rfl,xJ,fun J' hJ' => ⟨hvl,Sl.of ((hJ' aid haid hlt0).trans hc) (flatTr_len hvl),fun k hk => (hrows k hk).2 (by omega) J' fun q h1 _ h3 => hJ' q h1 h3⟩⟩
  have hi' : i < l.length := by omega
  have hr := hTJ.row hi'
  (repeat(first|refine yw ?_|((first|apply yd|apply ye);simp (disch:=first|exact zz|fail) only[go_sem,hTJ.len,hTJ.idx,hTJ.load];with_reducible rfl)))
  refine aops_call ((copyInts_c hr (by have := hl i hi'; omega)).mono fun w J2 ⟨e1,e2⟩ => ?_)
  subst e1
  obtain ⟨nv,hnv⟩ : ∃ nv,nv = Value.slice (some ⟨J.length,0,none⟩) (l.getD i tr0).s.length (l.getD i tr0).s.length := ⟨_,rfl⟩
  have hxJ2 : Ext J J2 := by rw [e2]; exact (Ext.refl J).app _
  have hlt2 : aid < J.length := (List.getElem?_eq_some_iff.1 hc).1
  have hc2 := hxJ2.cell hc
  have hTJ2 := hTJ.ext hxJ2
  have hst : storeR 1 (addrOf (.slice (some ⟨aid,0,none⟩) l.length l.length) (i * 3 + 2)) (.slice (some ⟨J.length,0,none⟩) (l.getD i tr0).s.length (l.getD i tr0).s.length) J2 = some (undef,J2.set aid (.cells true 3 ((flatTr l vs).set (i * 3 + 2) (.slice (some ⟨J.length,0,none⟩) (l.getD i tr0).s.length (l.getD i tr0).s.length)))) :=
    store_cell hc2 (by rw [flatTr_len hvl]; omega) rfl rfl
  rw [flatTr_set l vs i _ hvl hi'] at hst
  (repeat(first|refine yw ?_|((first|apply yd|apply ye);simp (disch:=first|exact zz|fail) only[go_sem,hTJ2.len,hTJ2.idx,hTJ2.load,hst];with_reducible rfl)))
  have hHJ := xJ.len
  have hJ2l : J2.length = J.length + 1 := by rw [e2]; simp
  have hnew : J2[J.length]? = some (.cells true 1 ((l.getD i tr0).s.map (.int .i64))) := by rw [e2]; simp
  refine ⟨by omega,_,by simp [forget],(xJ.trans hxJ2).set haid _,by simpa using hvl,get_set_self hc2,fun k hk => ⟨fun h => ?_,fun h J' hJ' => ?_⟩⟩
  · rw [getD_set_ne (by omega)]
    exact (hrows k hk).1 (by omega)
  · by_cases hki : k = i
    · subst hki
      rw [getD_set_eq (by omega)]
      have := hJ' J.length (by omega) (by omega) (by simp; omega)
      rw [List.getElem?_set_ne (by omega),hnew] at this
      exact Sl.of this (by simp)
    · rw [getD_set_ne (Ne.symm hki)]
      refine (hrows k hk).2 (by omega) J' fun q h1 h2 h3 => ?_
      rw [hJ' q h1 h2 (by simp; omega),List.getElem?_set_ne (Ne.symm h2),e2,List.getElem?_append_left h3]
theorem copyTask_c {l : List Tr} {us : List Value} {v : Value} {x y z : Int} (hT : Trs H l us v) (hb : l.length ≤ 6) (hl : ∀ i,i < l.length → (l.getD i tr0).s.length ≤ 1000000) :
    ACall Go.Proofs.Tryz.prog 7 [.agg ⟨[v,.int .i64 x,.int .i64 y,.int .i64 z]⟩] H fun w H' => ∃ vs w',w = .agg ⟨[w',.int .i64 x,.int .i64 y,.int .i64 z]⟩ ∧ Trs H' l vs w' ∧ Ext H H' := by
  (refine a7 ?_; simp only [n7,List.replicate,List.length_cons,List.length_nil,List.cons_append,List.nil_append]; first | refine Go.Lq.q1 ?_ | refine Go.Lq.q2 ?_ | refine Go.Lq.q6 ?_ | refine Go.Lq.q7 ?_ | refine Go.Lq.qh rfl ?_ | skip)
  (repeat(first|refine yw ?_|((first|apply yd|apply ye);simp (disch:=first|exact zz|fail) only[go_sem,box_tk hT.atom];with_reducible rfl)))
  (simp only [List.length_append,List.length_cons,List.length_nil,Nat.zero_add,Nat.add_assoc,Nat.reduceAdd])
  obtain ⟨A,hA⟩ : ∃ A,A = H ++ [AObj.cells true 0 [v,.int .i64 x,.int .i64 y,.int .i64 z]] ++ [AObj.cells true 0 [.slice none 0 0,.int .i64 0,.int .i64 0,.int .i64 0]] := ⟨_,rfl⟩
  have a0 : A[H.length]? = some (.cells true 0 [v,.int .i64 x,.int .i64 y,.int .i64 z]) := by rw [hA]; exact at_app at_new
  have a1 : A[H.length + 1]? = some (.cells true 0 [.slice none 0 0,.int .i64 0,.int .i64 0,.int .i64 0]) := by rw [hA]; simp
  have xA : Ext H A := by rw [hA]; exact ((Ext.refl H).app _).app _
  have lA : A.length = H.length + 2 := by rw [hA]; simp
  rw [← hA]
  clear hA
  (repeat(first|refine yw ?_|((first|apply yd|apply ye);simp (disch:=first|exact zz|fail) only[go_sem,load_at a0];with_reducible rfl)))
  refine aops_call ((copyTrs_c (hT.ext xA) hb hl).mono fun w K ⟨vs,p,q,r,ew,xK,hK⟩ => ?_)
  subst ew
  have k0 := xK.cell a0
  have k1 := xK.cell a1
  have s1 : storeR 1 (.pointer (some ⟨H.length,0,none⟩)) (.slice p q r) K = some (undef,K.set H.length (.cells true 0 [.slice p q r,.int .i64 x,.int .i64 y,.int .i64 z])) := store_pj k0 (by simp) rfl rfl
  have k1' : (K.set H.length (.cells true 0 [.slice p q r,.int .i64 x,.int .i64 y,.int .i64 z]))[H.length + 1]? = some (.cells true 0 [.slice none 0 0,.int .i64 0,.int .i64 0,.int .i64 0]) := by rw [List.getElem?_set_ne (by omega)]; exact k1
  have k0' := get_set_self (d := AObj.cells true 0 [.slice p q r,.int .i64 x,.int .i64 y,.int .i64 z]) k0
  have s2 : storeR 4 (.pointer (some ⟨H.length + 1,0,none⟩)) (.agg ⟨[.slice p q r,.int .i64 x,.int .i64 y,.int .i64 z]⟩) (K.set H.length (.cells true 0 [.slice p q r,.int .i64 x,.int .i64 y,.int .i64 z])) = some (undef,(K.set H.length (.cells true 0 [.slice p q r,.int .i64 x,.int .i64 y,.int .i64 z])).set (H.length + 1) (.cells true 0 [.slice p q r,.int .i64 x,.int .i64 y,.int .i64 z])) :=
    store_all k1' rfl rfl rfl
  have f1 := get_set_self (d := AObj.cells true 0 [.slice p q r,.int .i64 x,.int .i64 y,.int .i64 z]) k1'
  (repeat(first|refine yw ?_|((first|apply yd|apply ye);simp (disch:=first|exact zz|fail) only[go_sem,s1,loadN_at k0',s2];with_reducible rfl)))
  refine fin_l1 (u := .agg ⟨[.slice p q r,.int .i64 x,.int .i64 y,.int .i64 z]⟩) ?_ ?_
  · exact loadN_at (k := 0) f1 (by simp)
  · refine ⟨vs,_,rfl,hK _ fun q' h1 h2 => ?_,((xA.trans xK).set (by omega) _).set (by omega) _⟩
    rw [List.getElem?_set_ne (by omega),List.getElem?_set_ne (by omega)]
end
end Go.Lq

namespace Go.Lq
open Go
open Go.Proofs
theorem Rep.str_inv {P : Program} {H : AHeap} {t : TypeId} {vs : List Value} (ht : P.underlying t = some .string) (h : Rep P H t vs) : ∃ s,vs = [.string s] ∧ s.size ≤ maxLen := by
  cases h with
  | string h hs => exact ⟨_,rfl,hs⟩
  | bool h => rw [ht] at h; cases h
  | int h => rw [ht] at h; cases h
  | nil h => rw [ht] at h; cases h
  | empty h => rw [ht] at h; cases h
  | slice h => rw [ht] at h; cases h
  | struct h => rw [ht] at h; cases h
  | array h => rw [ht] at h; cases h
theorem trs_of {H : AHeap} : ∀ (n : Nat) (cs : List Value),cs.length = n * 3 → (∀ i,i < n → ∃ nm lag u s,(cs.drop (i * 3)).take 3 = [.string (bs nm),.int .i64 lag,u] ∧ Ints H s u) →
    ∃ (l : List Tr) (us : List Value),l.length = n ∧ us.length = n ∧ cs = flatTr l us ∧ ∀ i,i < n → Ints H (l.getD i tr0).s (us.getD i undef)
  | 0,cs,hl,_ => ⟨[],[],rfl,rfl,List.length_eq_zero_iff.1 (by omega),fun i hi => by omega⟩
  | n + 1,cs,hl,h => by
    obtain ⟨nm,lag,u,s,e,hu⟩ := h 0 (by omega)
    match cs,hl with
    | x :: y :: z :: r,hl =>
      simp at e
      obtain ⟨rfl,rfl,rfl⟩ := e
      obtain ⟨l,us,h1,h2,h3,h4⟩ := trs_of n r (by simp at hl; omega) fun i hi => by
        obtain ⟨nm,lag,u,s,e,hu⟩ := h (i + 1) (by omega)
        refine ⟨nm,lag,u,s,?_,hu⟩
        rw [← e,Nat.add_mul,Nat.one_mul]
        rfl
      refine ⟨⟨nm,lag,s⟩ :: l,z :: us,by simp [h1],by simp [h2],by rw [h3]; rfl,fun i hi => ?_⟩
      cases i with
      | zero => exact hu
      | succ i => exact h4 i (by omega)
    | [],hl => simp at hl
    | [x],hl => simp at hl; omega
    | [x,y],hl => simp at hl; omega
theorem cells3 : Tryz.prog.cellsOf 3 = 1 := by kernel_rfl
theorem cellsStr : Tryz.prog.cellsOf 9 = 1 := by kernel_rfl
theorem cellsInts : Tryz.prog.cellsOf 48 = 1 := by kernel_rfl
theorem cellsTr : Tryz.prog.cellsOf 65 = 3 := by kernel_rfl
theorem cellsTrs : Tryz.prog.cellsOf 22 = 1 := by kernel_rfl
theorem cellsTask : Tryz.prog.cellsOf 24 = 4 := by kernel_rfl
set_option maxRecDepth 100000 in
theorem repTr {H : AHeap} {vs : List Value} (h : Rep Tryz.prog H 65 vs) : ∃ nm lag u s,vs = [.string (bs nm),.int .i64 lag,u] ∧ Ints H s u := by
  obtain ⟨hl,hf⟩ := h.struct_inv Tryz.underlying65
  rw [cellsTr] at hl
  match vs,hl with
  | [x,y,z],_ =>
    have h0 : Rep Tryz.prog H 9 (([x,y,z].drop 0).take (Tryz.prog.cellsOf 9)) := hf 0 _ rfl
    have h1 : Rep Tryz.prog H 3 (([x,y,z].drop 1).take (Tryz.prog.cellsOf 3)) := hf 1 _ rfl
    have h2 : Rep Tryz.prog H 48 (([x,y,z].drop 2).take (Tryz.prog.cellsOf 48)) := hf 2 _ rfl
    rw [cellsStr] at h0
    rw [cells3] at h1
    rw [cellsInts] at h2
    obtain ⟨s,e0,_⟩ := h0.str_inv Tryz.underlying9
    obtain ⟨a,e1,_⟩ := h1.int_inv Tryz.underlying3
    have e0' : [x] = [.string s] := e0
    have e1' : [y] = [.int .i64 a] := e1
    cases e0'; cases e1'
    have h2' : Rep Tryz.prog H 48 [z] := h2
    obtain ⟨l,hl,_,_⟩ := (RepA.of_slice Tryz.underlying48 h2').ints Tryz.underlying48 Tryz.underlying3 cells3
    exact ⟨s.data.toList,a,z,l,by rw [← bs_of],hl⟩
set_option maxRecDepth 100000 in
theorem repTask {H : AHeap} {v : Value} (h : RepA Tryz.prog H 24 v) : ∃ w l us len pas chg,v = .agg ⟨[w,.int .i64 len,.int .i64 pas,.int .i64 chg]⟩ ∧ Trs H l us w ∧ (-9223372036854775808 ≤ pas ∧ pas ≤ 9223372036854775807) := by
  obtain ⟨acs,rfl,hr⟩ := h.struct Tryz.underlying24
  obtain ⟨hl,hf⟩ := hr.struct_inv Tryz.underlying24
  rw [cellsTask] at hl
  match acs,hl with
  | [x,y,z,u],_ =>
    have h0 : Rep Tryz.prog H 22 (([x,y,z,u].drop 0).take (Tryz.prog.cellsOf 22)) := hf 0 _ rfl
    have h1 : Rep Tryz.prog H 3 (([x,y,z,u].drop 1).take (Tryz.prog.cellsOf 3)) := hf 1 _ rfl
    have h2 : Rep Tryz.prog H 3 (([x,y,z,u].drop 2).take (Tryz.prog.cellsOf 3)) := hf 2 _ rfl
    have h3 : Rep Tryz.prog H 3 (([x,y,z,u].drop 3).take (Tryz.prog.cellsOf 3)) := hf 3 _ rfl
    rw [cellsTrs] at h0
    rw [cells3] at h1 h2 h3
    obtain ⟨a,e1,_⟩ := h1.int_inv Tryz.underlying3
    obtain ⟨b,e2,hb⟩ := h2.int_inv Tryz.underlying3
    obtain ⟨c,e3,_⟩ := h3.int_inv Tryz.underlying3
    have e1' : [y] = [.int .i64 a] := e1
    have e2' : [z] = [.int .i64 b] := e2
    have e3' : [u] = [.int .i64 c] := e3
    cases e1'; cases e2'; cases e3'
    have h0' : Rep Tryz.prog H 22 [x] := h0
    obtain ⟨w,n,cs,ew,hs,hn,hfs⟩ := h0'.slice_inv Tryz.underlying22
    cases ew
    rw [cellsTr] at hs hfs
    obtain ⟨l,us,l1,l2,l3,l4⟩ := trs_of n cs hs.1 fun i hi => repTr (hfs i hi)
    subst l1
    refine ⟨_,l,us,a,b,c,rfl,⟨l2,by rw [← l3]; exact hs,l4⟩,?_⟩
    have hb' : IntKind.i64.min ≤ b ∧ b ≤ 9223372036854775807 := by simpa [Lit.wf] using hb
    have e : IntKind.i64.min = -9223372036854775808 := by decide
    exact ⟨by rw [← e]; exact hb'.1,hb'.2⟩
end Go.Lq

namespace Go.Lq
open Go
open Go.Proofs
theorem numC_le : ∀ (p : Option Nat) (a : List Nat),numC p a ≤ a.length
  | _,[] => by simp [numC]
  | p,i :: a => by
    have := numC_le (some i) a
    have hg : chgC 1 p i ≤ 1 := by
      cases p with
      | none => simp [chgC]
      | some j => simp only [chgC]; split <;> omega
    simp only [numC,List.length_cons]
    omega
set_option maxRecDepth 100000 in
set_option maxHeartbeats 8000000 in
theorem law3 {H : AHeap} {avs : List Value} (h : RepAll Tryz.prog H [24,3] avs) : ACall Tryz.prog 3 avs H fun v _ => v = .bool true := by
  obtain ⟨v0,m0,rfl,h1,h2⟩ := h.two
  obtain ⟨v,l,us,len,pas,c,rfl,hT,hpas⟩ := repTask h1
  obtain ⟨more,rfl,_⟩ := h2.int Tryz.underlying3
  have ha := hT.atom
  (refine a3 ?_; simp only [n3,List.replicate,yq,yr,yt,yu]; first | refine Go.Lq.q1 ?_ | refine Go.Lq.q2 ?_ | refine Go.Lq.q6 ?_ | refine Go.Lq.q7 ?_ | refine Go.Lq.qh rfl ?_ | skip)
  obtain ⟨A,hA⟩ : ∃ A,A = H ++ [AObj.cells true 0 [v,.int .i64 len,.int .i64 pas,.int .i64 c]] := ⟨_,rfl⟩
  have a0 : A[H.length]? = some (.cells true 0 [v,.int .i64 len,.int .i64 pas,.int .i64 c]) := by rw [hA]; exact at_new
  have xA : Ext H A := by rw [hA]; exact (Ext.refl H).app _
  (repeat(first|refine yw ?_|((first|apply yd|apply ye);simp (disch:=first|exact zz|fail) only[go_sem,box_tk ha];with_reducible rfl)))
  rw [← hA]
  clear hA
  (refine aops_call_to (shown_c) ?_)
  (refine yg ?_)
  refine cond_f rfl ?_
  have hTA := hT.ext xA
  by_cases c1 : (6 : Int) < l.length
  · (repeat(first|refine yw ?_|((first|apply yd|apply ye);simp (disch:=first|exact zz|fail) only[go_sem,hTA.len,hTA.idx,hTA.load,load_at a0,dec_t c1];with_reducible rfl)))
    refine cond_t rfl ?_
    (refine yg ?_)
    exact fin_1 rfl
  (repeat(first|refine yw ?_|((first|apply yd|apply ye);simp (disch:=first|exact zz|fail) only[go_sem,hTA.len,hTA.idx,hTA.load,load_at a0,dec_f c1,loadN_at a0];with_reducible rfl)))
  refine aops_call ((refTaskErr_c hTA (by omega) hpas).mono fun w B ⟨xB,e,ew,he⟩ => ?_)
  subst ew
  have b0 := xB.cell a0
  by_cases c2 : e = 0
  rotate_left 1
  · (repeat(first|refine yw ?_|((first|apply yd|apply ye);simp (disch:=first|exact zz|fail) only[go_sem,dec_t c2];with_reducible rfl)))
    refine cond_t rfl ?_
    (refine yg ?_)
    exact fin_1 rfl
  obtain ⟨N,P,rfl,rfl,hk⟩ := he c2
  subst c2
  by_cases c3 : (24 : Int) < ((N * P : Nat) : Int)
  · (repeat(first|refine yw ?_|((first|apply yd|apply ye);simp (disch:=first|exact zz|fail) only[go_sem,load_at b0,dec_t c3];with_reducible rfl)))
    refine cond_t rfl ?_
    (refine yg ?_)
    exact fin_1 rfl
  obtain ⟨hc1,hc2⟩ := hk.chg
  (repeat(first|refine yw ?_|((first|apply yd|apply ye);simp (disch:=first|exact zz|fail) only[go_sem,load_at b0,dec_f c3];with_reducible rfl)))
  (refine aops_call_to (bwithin_c more 0 (1000000 - c)) ?_)
  by_cases c4 : 0 ≤ more ∧ more ≤ 1000000 - c
  rotate_left 1
  · (repeat(first|refine yw ?_|((first|apply yd|apply ye);simp (disch:=first|exact zz|fail) only[go_sem,dec_f c4];with_reducible rfl)))
    refine cond_t rfl ?_
    (refine yg ?_)
    exact fin_1 rfl
  (repeat(first|refine yw ?_|((first|apply yd|apply ye);simp (disch:=first|exact zz|fail) only[go_sem,dec_t c4];with_reducible rfl)))
  refine cond_f rfl ?_
  have hk' : TaskOk l N P (c + more) := ⟨hk.trs,hk.P1,hk.N1,hk.len,by omega,hk.gap⟩
  have ho := hk.trs
  have hn := ho.len
  have hsl : ∀ i,i < l.length → (l.getD i tr0).s.length ≤ 1000000 := fun i hi => by have := (ho.ok i hi).len; omega
  have hTB := hTA.ext xB
  (repeat(first|refine yw ?_|((first|apply yd|apply ye);simp (disch:=first|exact zz|fail) only[go_sem,loadN_at b0];with_reducible rfl)))
  refine aops_call ((copyTask_c hTB (by omega) hsl).mono fun w C0 ⟨us1,v1,ew,hT1,x1⟩ => ?_)
  subst ew
  have st4 : ∀ (J : AHeap) (a1 a2 a3 a4 : Value),storeR 4 (.pointer (some ⟨J.length,0,none⟩)) (.agg ⟨[v1,.int .i64 ((N * P : Nat) : Int),.int .i64 (P : Int),.int .i64 c]⟩) (J ++ [.cells true 0 [a1,a2,a3,a4]]) = some (undef,J ++ [.cells true 0 [v1,.int .i64 ((N * P : Nat) : Int),.int .i64 (P : Int),.int .i64 c]]) := fun J a1 a2 a3 a4 =>
    store_new (us := [v1,.int .i64 ((N * P : Nat) : Int),.int .i64 (P : Int),.int .i64 c]) (by simp [hT1.atom,isAtom_int]) rfl
  have c00 := x1.cell b0
  (repeat(first|refine yw ?_|((first|apply yd|apply ye);simp (disch:=first|exact zz|fail) only[go_sem,st4];with_reducible rfl)))
  obtain ⟨iu,hiu⟩ : ∃ iu,iu = C0.length := ⟨_,rfl⟩
  have hlt : H.length < C0.length := (List.getElem?_eq_some_iff.1 c00).1
  have c00' : (C0 ++ [AObj.cells true 0 [v1,.int .i64 ((N * P : Nat) : Int),.int .i64 (P : Int),.int .i64 c]])[H.length]? = some (.cells true 0 [v,.int .i64 ((N * P : Nat) : Int),.int .i64 (P : Int),.int .i64 c]) := at_app c00
  have cu0 : (C0 ++ [AObj.cells true 0 [v1,.int .i64 ((N * P : Nat) : Int),.int .i64 (P : Int),.int .i64 c]])[iu]? = some (.cells true 0 [v1,.int .i64 ((N * P : Nat) : Int),.int .i64 (P : Int),.int .i64 c]) := by rw [hiu]; exact at_new
  have s3 : storeR 1 (.pointer (some ⟨iu,3,none⟩)) (.int .i64 (c + more)) (C0 ++ [AObj.cells true 0 [v1,.int .i64 ((N * P : Nat) : Int),.int .i64 (P : Int),.int .i64 c]]) = some (undef,C0 ++ [AObj.cells true 0 [v1,.int .i64 ((N * P : Nat) : Int),.int .i64 (P : Int),.int .i64 (c + more)]]) := by
    rw [store_pj cu0 (by simp) rfl rfl,hiu]
    simp
  rw [← hiu]
  (repeat(first|refine yw ?_|((first|apply yd|apply ye);simp (disch:=first|exact zz|fail) only[go_sem,load_at c00',s3];with_reducible rfl)))
  obtain ⟨C,hC⟩ : ∃ C,C = C0 ++ [AObj.cells true 0 [v1,.int .i64 ((N * P : Nat) : Int),.int .i64 (P : Int),.int .i64 (c + more)]] := ⟨_,rfl⟩
  have k0 : C[H.length]? = some (.cells true 0 [v,.int .i64 ((N * P : Nat) : Int),.int .i64 (P : Int),.int .i64 c]) := by rw [hC]; exact at_app c00
  have ku : C[iu]? = some (.cells true 0 [v1,.int .i64 ((N * P : Nat) : Int),.int .i64 (P : Int),.int .i64 (c + more)]) := by rw [hC,hiu]; exact at_new
  have xC : Ext C0 C := by rw [hC]; exact (Ext.refl C0).app _
  rw [← hC]
  clear hC
  have hTC := hTB.ext (x1.trans xC)
  have hUC := hT1.ext xC
  -- the best choice
  (repeat(first|refine yw ?_|((first|apply yd|apply ye);simp (disch:=first|exact zz|fail) only[go_sem,loadN_at k0];with_reducible rfl)))
  refine aops_call ((copyTask_c hTC (by omega) hsl).mono fun w D1 ⟨us2,v2,ew,hT2,y1⟩ => ?_)
  subst ew
  (refine yg ?_)
  refine aops_call ((bchoice_c hT2 hk).mono fun w D2 ⟨a,sa,ew,hSa,y2,hLa⟩ => ?_)
  subst ew
  have y12 := y1.trans y2
  have ku2 := y12.cell ku
  -- the best choice with the greater cost
  (repeat(first|refine yw ?_|((first|apply yd|apply ye);simp (disch:=first|exact zz|fail) only[go_sem,loadN_at ku2];with_reducible rfl)))
  refine aops_call ((copyTask_c (hUC.ext y12) (by omega) hsl).mono fun w D3 ⟨us3,v3,ew,hT3,y3⟩ => ?_)
  subst ew
  (refine yg ?_)
  refine aops_call ((bchoice_c hT3 hk').mono fun w D4 ⟨b,sb,ew,hSb,y4,hLb⟩ => ?_)
  subst ew
  have y14 := y12.trans (y3.trans y4)
  have k04 := y14.cell k0
  -- prices
  (repeat(first|refine yw ?_|((first|apply yd|apply ye);simp (disch:=first|exact zz|fail) only[go_sem,loadN_at k04];with_reducible rfl)))
  refine aops_call ((copyTask_c (hTC.ext y14) (by omega) hsl).mono fun w D5 ⟨us5,v5,ew,hT5,y5⟩ => ?_)
  subst ew
  (refine yg ?_)
  refine aops_call ((jprices_c hT5 hk).mono fun w D6 ⟨pv,ps,ew,hQ,y6⟩ => ?_)
  subst ew
  have y16 := y14.trans (y5.trans y6)
  have y26 := (y3.trans y4).trans (y5.trans y6)
  have k06 := y16.cell k0
  have ku6 := y16.cell ku
  have hTD := hTC.ext y16
  have hUD := hUC.ext y16
  have hSa6 := hSa.ext y26
  have hSb6 := hSb.ext (y5.trans y6)
  (repeat(first|refine yw ?_|((first|apply yd|apply ye);simp (disch:=first|exact zz|fail) only[go_sem,loadN_at k06];with_reducible rfl)))
  (refine aops_call_to (refChoice_c hTD hk hLa.1 hSa6) ?_)
  (repeat(first|refine yw ?_|((first|apply yd|apply ye);simp (disch:=first|exact zz|fail) only[go_sem,loadN_at k06];with_reducible rfl)))
  (refine aops_call_to (refChoice_c hTD hk hLb.1 hSb6) ?_)
  (refine yg ?_)
  refine cond_f rfl ?_
  -- the prices checked
  (repeat(first|refine yw ?_|((first|apply yd|apply ye);simp (disch:=first|exact zz|fail) only[go_sem,loadN_at ku6];with_reducible rfl)))
  refine aops_call ((copyTask_c hUD (by omega) hsl).mono fun w D7 ⟨us7,v7,ew,hT7,y7⟩ => ?_)
  subst ew
  have hPl := priceT_len c (devTab l P N) N
  have hPr : ∀ i,i < (priceT c (devTab l P N) N).length → ((priceT c (devTab l P N) N).getD i []).length ≤ 1000000 := fun i hi => by
    rw [hPl] at hi
    rw [priceT_at hi,priceR_len,(devTab_ok hk).row (by rw [devTab_len]; exact hi)]
    omega
  have hN20 := hk.N1
  (refine yg ?_)
  refine aops_call ((copyLists_c (hQ.ext y7) (by omega) hPr).mono fun w D8 ⟨oQ,y8⟩ => ?_)
  obtain ⟨ps8,hQ8⟩ := oQ.lists
  (refine yg ?_)
  refine aops_call ((jcheck_c (hT7.ext y8) hk hk' (by omega) hQ8).mono fun w D9 ⟨ew,y9⟩ => ?_)
  subst ew
  have hbb := bound_best hc1 (by decide : (0 : Int) ≤ 13106800) (devTab_ok hk) (by rw [devTab_len]; omega) hLa
  rw [devTab_len] at hbb
  rw [hbb]
  have y79 := y7.trans (y8.trans y9)
  have k09 := y79.cell k06
  have ku9 := y79.cell ku6
  have hSa9 := hSa6.ext y79
  have hSb9 := hSb6.ext y79
  (repeat(first|refine yw ?_|((first|apply yd|apply ye);simp (disch:=first|exact zz|fail) only[go_sem,loadN_at k09];with_reducible rfl)))
  (refine aops_call_to (refCost_c (hTD.ext y79) hk hLa.1 hSa9) ?_)
  (repeat(first|refine yw ?_|((first|apply yd|apply ye);simp (disch:=first|exact zz|fail) only[go_sem,loadN_at ku9];with_reducible rfl)))
  (refine aops_call_to (refCost_c (hUD.ext y79) hk' hLb.1 hSb9) ?_)
  (refine yg ?_)
  refine cond_f rfl ?_
  have hbnd : ∀ x,ValidC (devTab l P N) x → ∀ k,k < x.length → x.getD k 0 < l.length := fun x hx k hkx => by
    have hl := validC_len hx
    have := (validC_at hx k (by omega)).1
    rwa [(devTab_ok hk).row (by omega)] at this
  have hal := validC_len hLa.1
  have hbl := validC_len hLb.1
  rw [devTab_len] at hal hbl
  have hca := joinChanges_c ho (hbnd a hLa.1) (by omega) (by omega) hSa9
  have hcb := joinChanges_c ho (hbnd b hLb.1) (by omega) (by omega) hSb9
  (refine yg ?_)
  (refine aops_call_to (hca) ?_)
  (refine yg ?_)
  (refine aops_call_to (hcb) ?_)
  obtain ⟨z1,z2,z3⟩ := exchangeC hc1 c4.1 hLa hLb
  have ua := numC_le none a
  have ub := numC_le none b
  have la := numC_nonneg none a
  have lb := numC_nonneg none b
  have ma := costC_bound (p := none) hc1 (by decide : (0 : Int) ≤ 13106800) (devTab_ok hk) hLa.1
  have mb := costC_bound (p := none) hk'.chg.1 (by decide : (0 : Int) ≤ 13106800) (devTab_ok hk') hLb.1
  rw [devTab_len] at ma mb
  have q1' : ((13106800 : Int) + c) * (N : Int) ≤ 30000000 * 20 := Int.mul_le_mul (by omega) (by omega) (by omega) (by decide)
  have q2' : ((13106800 : Int) + (c + more)) * (N : Int) ≤ 30000000 * 20 := Int.mul_le_mul (by omega) (by omega) (by omega) (by decide)
  generalize costC c none (devTab l P N) a = m at *
  generalize costC (c + more) none (devTab l P N) b = n at *
  generalize numC none a = K1 at *
  generalize numC none b = K2 at *
  have p1 : 0 ≤ more * K1 := Int.mul_nonneg c4.1 la
  have p1' : more * K1 ≤ 1000000 * 20 := Int.mul_le_mul (by omega) (by omega) la (by decide)
  have p2 : 0 ≤ (c + more) * K2 := Int.mul_nonneg (by omega) lb
  have p2' : (c + more) * K2 ≤ 1000000 * 20 := Int.mul_le_mul (by omega) (by omega) lb (by decide)
  have p3 : 0 ≤ c * K1 := Int.mul_nonneg hc1 la
  have p3' : c * K1 ≤ 1000000 * 20 := Int.mul_le_mul (by omega) (by omega) la (by decide)
  (repeat(first|refine yw ?_|((first|apply yd|apply ye);simp (disch:=first|exact zz|fail) only[go_sem,dec_f (show ¬ n < m by omega),dec_f (show ¬ m + more * K1 < n by omega)];with_reducible rfl)))
  refine cond_f rfl ?_
  by_cases hm0 : more = 0
  · (repeat(first|refine yw ?_|((first|apply yd|apply ye);simp (disch:=first|exact zz|fail) only[go_sem,dec_t hm0];with_reducible rfl)))
    exact fin_1 rfl
  obtain ⟨w1,w2⟩ := z3 (by omega)
  (repeat(first|refine yw ?_|((first|apply yd|apply ye);simp (disch:=first|exact zz|fail) only[go_sem,dec_f hm0,dec_t w1,load_at k09,load_at ku9,dec_t w2];with_reducible rfl)))
  exact fin_1 rfl
end Go.Lq

namespace Go.Lq
open Go Go.ChangeShapes Go.WideShapes Go.ChangeAt Go.RowKit
open Go.Proofs
set_option maxRecDepth 100000 in
theorem lifted3 (os : Os) (started : os.Started) (X : Type) (enc : TypeId × Value → X) :
    ReturnsInHanded {} Tryz.checked os 3 .any (YtpgemmklfaedfacGreat.Rows.topJoinChangesSpec.pre6 enc Tryz.prog Tryz.f3 [] false) (YtpgemmklfaedfacGreat.Rows.topJoinChangesSpec.post enc Tryz.prog Tryz.f3 false true false false) := by
  refine returnsInHanded_of_plain_shaped (C := Tryz.checked) own_knob started (by kernel_rfl) Tryz.func3
    (ChangeSpec.witness6 (enc := enc) (C := Tryz.checked) false ⟨#[],#[.agg #[.slice none 0 0,.int .i64 0,.int .i64 0,.int .i64 0],.int .i64 0],[]⟩ 12 (by kernel_rfl) (by kernel_rfl) (by kernel_rfl) (by kernel_rfl)) ?_
  intro W base args ds gs before hsh hval hW
  have hWw := hW
  obtain ⟨p,q,hA,_⟩ := hW
  refine (calls_of_law (d := 20) (of_shaped hsh) globs glob_at hA (fun j t v h1 h2 => hval j t v (by simpa using h1) (by simpa using h2)) (by kernel_rfl) fun H avs hx h => ?_).mono fun e W' ⟨he,hB⟩ => ?_
  · exact law3 (by rw [show Tryz.f3.params = #[24,3] from Tryz.params3] at h; exact h)
  · subst he
    exact ⟨_,rfl,law_post (bt := 4) laid_out rfl Tryz.underlying4 (by kernel_rfl) (by kernel_rfl) hWw (fun ds hd => by
      rw [show Tryz.f3.params = #[24,3] from Tryz.params3] at hd
      match ds,hd with
      | [a,b],_ => rfl) hB⟩
theorem unf3 : Tryz.prog.unfollowed 3 = true := by kernel_rfl
theorem rec3 : Tryz.prog.recurses 3 = true := by kernel_rfl
theorem named3 : Tryz.prog.varsNamed 3 = YtpgemmklfaedfacGreat.Rows.topJoinChangesRow.named := by kernel_rfl
theorem facts3 : joinedFacts Tryz.prog 3 Tryz.f3 YtpgemmklfaedfacGreat.Rows.topJoinChangesSpec YtpgemmklfaedfacGreat.Rows.topJoinChangesRow = true := by
  unfold joinedFacts
  rw [may_enter,stops_heard,maps_rowed,laid_out,lifts_final,make_is,unf3,rec3,named3]
  kernel_rfl
theorem holds3 : YtpgemmklfaedfacGreat.Rows.TopJoinChangesSaid :=
  OpenClaim.holds_of_wide 3 Tryz.f3 rfl rfl rfl rfl rfl rfl rfl ⟨rfl,rfl,rfl,rfl,rfl⟩ rfl rfl rfl rfl rfl (by kernel_rfl) Tryz.func3 facts3
    (of_decide_eq_true (by kernel_rfl)) (by unfold Func.isWrapper; first | (rw [if_pos (by decide +kernel)]; kernel_rfl) | (rw [if_neg (by decide +kernel)]; exact ⟨rfl,rfl⟩))
    (fun os started H enc _ => lifted3 os started H enc)
end Go.Lq
namespace Go.Proofs.YtpgemmklfaedfacGreat
open Go Go.Lq
theorem topJoinChanges_proved : Rows.TopJoinChangesSaid := holds3
end Go.Proofs.YtpgemmklfaedfacGreat
