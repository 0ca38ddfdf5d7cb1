/- ResampleStrings is proved: for every input that can be read the law returns true, and each argument reads afterwards as it read before; the listed package variables hold what the program's text lays (the card ties them). -/
import Derived.Test.YtejkpmemicpheabGreatDoorV43
set_option linter.unusedSimpArgs false
set_option linter.unnecessarySimpa false
set_option linter.unusedVariables false
set_option linter.unusedSectionVars false
set_option maxRecDepth 100000
namespace Go.Lq
open Go
open Go.Proofs
section
variable {H : AHeap}
set_option maxHeartbeats 8000000 in
theorem rParseFilter_c {l : List UInt8} (hl : l.length ≤ 60000) : ACall Go.Proofs.Tryz.prog 24 [.string (bs l)] H (FilterRes H (parseFilterL l)) := by
  (refine a24 ?_; simp only [n24,List.replicate,List.length_cons,List.length_nil,List.cons_append,List.nil_append]; first | refine Go.Lq.q1 ?_ | refine Go.Lq.q2 ?_ | refine Go.Lq.q6 ?_ | refine Go.Lq.q7 ?_ | refine Go.Lq.qh rfl ?_ | skip)
  (refine yg ?_)
  refine aops_call_to (cut32_c (by omega)) ?_
  obtain ⟨pl,hpl⟩ : ∃ pl,pl = cutL 32 l := ⟨_,rfl⟩
  rw [← hpl]
  have hpm : ∀ x ∈ pl,x.length ≤ 60000 := fun x hx => by have := cutL_piece 32 l x (by rw [← hpl]; exact hx); omega
  have hpn : pl.length ≤ 60001 := by have := cutL_length 32 l; rw [← hpl] at this; omega
  have hp0 : 0 < pl.length := by obtain ⟨x,xs,e⟩ := cutL_ne 32 l; rw [hpl,e]; simp
  have hP : parseFilterL l = match numsS 4 pl with
      | some (d :: c) => if 0 ≤ d then (if filterErrL c d = 0 then ((c,d),0) else (([],0),filterErrL c d)) else (([],0),7)
      | _ => (([],0),7) := by rw [hpl]; rfl
  (simp only [List.length_append,List.length_cons,List.length_nil,Nat.zero_add,Nat.add_assoc,Nat.reduceAdd])
  have hz : storeR 2 (.pointer (some ⟨H.length + 2,0,none⟩)) (.agg ⟨[.slice none 0 0,.int .i64 0]⟩) (H ++ [AObj.cells true 0 [.slice none 0 0,.int .i64 0]] ++ [AObj.cells true 1 (strs pl)] ++ [AObj.cells true 0 [.slice none 0 0,.int .i64 0]]) =
      some (undef,H ++ [AObj.cells true 0 [.slice none 0 0,.int .i64 0]] ++ [AObj.cells true 1 (strs pl)] ++ [AObj.cells true 0 [.slice none 0 0,.int .i64 0]]) := by
    have h : (H ++ [AObj.cells true 0 [.slice none 0 0,.int .i64 0]] ++ [AObj.cells true 1 (strs pl)] ++ [AObj.cells true 0 [.slice none 0 0,.int .i64 0]])[H.length + 2]? = some (.cells true 0 [.slice none 0 0,.int .i64 0]) := by simp
    have hh := store_at2v (a := .slice none 0 0) (b := .int .i64 0) h rfl rfl
    rw [set_same h] at hh
    exact hh
  obtain ⟨G,hG⟩ : ∃ G,G = H ++ [AObj.cells true 0 [.slice none 0 0,.int .i64 0]] ++ [AObj.cells true 1 (strs pl)] ++ [AObj.cells true 0 [.slice none 0 0,.int .i64 0]] := ⟨_,rfl⟩
  have k2 : G[H.length]? = some (.cells true 0 [nilS,.int .i64 0]) := by rw [hG]; simp
  have k5 : G[H.length + 1]? = some (.cells true 1 (strs pl)) := by rw [hG]; simp
  have k4 : G[H.length + 2]? = some (.cells true 0 [nilS,.int .i64 0]) := by rw [hG]; simp
  have lG : G.length = H.length + 3 := by rw [hG]; simp
  have xG : Ext H G := by rw [hG]; exact (((Ext.refl H).app _).app _).app _
  have tJs : ∀ {J' : AHeap},J'[H.length + 1]? = some (.cells true 1 (strs pl)) → Txts J' pl (.slice (some ⟨H.length + 1,0,none⟩) pl.length pl.length) := fun h => Txts.of_cells h
  generalize (Value.slice (some ⟨H.length + 1,0,none⟩) pl.length pl.length) = sv at tJs
  have tG := tJs k5
  (repeat(first|refine yw ?_|((first|apply yd|apply ye);simp (disch:=first|exact zz|fail) only[go_sem,List.length_append,List.length_cons,List.length_nil,Nat.zero_add,Nat.add_assoc,Nat.reduceAdd,hz];with_reducible rfl)))
  rw [← hG]
  clear hG hz
  refine awp_loop_n [false,false,true,true,true,true,true,false,false,false,false,false,false,false,false,false,false,false,false,false,false,false,false,false,false,false,false,false,false,false,false,false,false,false,false,false,false,false,false,false,false,false,false,false,false,false,false,false,false,false,false,false,false,false,false,false,false,false,false] pl.length (fun i e K => ∃ ns : List Int,e = [junk,junk,.pointer (some ⟨H.length,0,none⟩),.int .i64 0,sv,.pointer (some ⟨H.length + 2,0,none⟩),.int .i64 (i : Nat),junk,junk,junk,junk,junk,junk,junk,junk,junk,junk,junk,junk,junk,junk,junk,junk,junk,junk,junk,junk,junk,junk,junk,junk,junk,junk,junk,junk,junk,junk,junk,junk,junk,junk,junk,junk,junk,junk,junk,junk,junk,junk,junk,junk,junk,junk,junk,junk,junk,junk,junk,junk] ∧ FSt G K (H.length + 2) ns ∧ ns.length = i ∧
      numsS 4 pl = (numsS 4 (pl.drop i)).map (ns ++ ·)) ?_ ?_
  · refine ⟨[],by simp [forget],⟨⟨Nat.le_refl _,fun _ _ _ _ => rfl⟩,.inl ⟨rfl,k4⟩⟩,rfl,?_⟩
    rw [List.drop_zero]; cases numsS 4 pl <;> simp
  rintro i e K hi ⟨ns,rfl,⟨hk,hst⟩,hns,hq⟩
  have xK := hk.ext xG (by omega) (by omega)
  have kr := hk.get k2 (by omega) (by omega)
  have tK := tJs (hk.get k5 (by omega) (by omega))
  have hst2 : storeR 2 (.pointer (some ⟨H.length,0,none⟩)) (.agg ⟨[.slice none 0 0,.int .i64 0]⟩) K = some (undef,K.set H.length (.cells true 0 [nilS,.int .i64 0])) := store_at2v kr rfl rfl
  have bad : ∀ e : Int,parseFilterL l = (([],0),e) → FilterRes H (parseFilterL l) (.tuple #[.agg ⟨[nilS,.int .i64 0]⟩,.int .i64 e]) (K.set H.length (.cells true 0 [nilS,.int .i64 0])) := fun e hp => by
    rw [hp]
    exact ⟨nilS,rfl,xK.set (Nat.le_refl _) _,intsNil _⟩
  have fin0 : loadNR 2 (.pointer (some ⟨H.length,0,none⟩)) (K.set H.length (.cells true 0 [nilS,.int .i64 0])) = some (.agg ⟨[nilS,.int .i64 0]⟩,K.set H.length (.cells true 0 [nilS,.int .i64 0])) := loadN_at (get_set_self kr) (by simp)
  (repeat(first|refine yw ?_|((first|apply yd|apply ye);simp (disch:=first|exact zz|fail) only[go_sem,tK.len];with_reducible rfl)))
  refine cond_p rfl (fun hlt => ?_) (fun hge => ?_)
  rotate_left 1
  · obtain rfl : i = pl.length := by omega
    rw [List.drop_length] at hq
    have hq : numsS 4 pl = some ns := by rw [hq]; show some (ns ++ []) = _; rw [List.append_nil]
    rcases hst with ⟨rfl,_⟩ | ⟨d,c,v,rfl,hd,hb,ho⟩
    · simp at hns; omega
    rw [hq] at hP
    have hP : parseFilterL l = if 0 ≤ d then (if filterErrL c d = 0 then ((c,d),0) else (([],0),filterErrL c d)) else (([],0),7) := hP
    rw [if_pos hd] at hP
    have hcl : c.length ≤ 60001 := by simp at hns; omega
    have lb : loadNR 2 (.pointer (some ⟨H.length + 2,0,none⟩)) K = some (.agg ⟨[v,.int .i64 d]⟩,K) := loadN_at hb (by simp)
    (repeat(first|refine yw ?_|((first|apply yd|apply ye);simp (disch:=first|exact zz|fail) only[go_sem,lb];with_reducible rfl)))
    (refine aops_call_to (refFilterErr_c (d := d) ho.ints (by omega)) ?_)
    by_cases he : filterErrL c d = 0
    · rw [if_pos he] at hP
      rw [he]
      have hat := ho.ints.atom
      have hs3 : storeR 2 (.pointer (some ⟨H.length,0,none⟩)) (.agg ⟨[v,.int .i64 d]⟩) K = some (undef,K.set H.length (.cells true 0 [v,.int .i64 d])) := store_at2v kr hat rfl
      (refine yg ?_)
      refine cond_f rfl ?_
      (repeat(first|refine yw ?_|((first|apply yd|apply ye);simp (disch:=first|exact zz|fail) only[go_sem,lb,hs3];with_reducible rfl)))
      refine fin_l2 (u := .agg ⟨[v,.int .i64 d]⟩) (loadN_at (k := 0) (n := 2) (get_set_self kr) (by simp)) ?_
      rw [hP]
      exact ⟨v,rfl,xK.set (Nat.le_refl _) _,(ho.set_lt (by omega) _).ints⟩
    · rw [if_neg he] at hP
      (repeat(first|refine yw ?_|((first|apply yd|apply ye);simp (disch:=first|exact zz|fail) only[go_sem,dec_t (show filterErrL c d ≠ 0 from he)];with_reducible rfl)))
      refine cond_t rfl ?_
      (repeat(first|refine yw ?_|((first|apply yd|apply ye);simp (disch:=first|exact zz|fail) only[go_sem,hst2];with_reducible rfl)))
      exact fin_l2 fin0 (bad _ hP)
  have hi2 : i < pl.length := by omega
  have e1 : (i : Int) + 1 = ((i + 1 : Nat) : Int) := by omega
  have hwm : pl.getD i [] ∈ pl := by rw [List.getD_eq_getElem?_getD,List.getElem?_eq_getElem hi2]; exact List.getElem_mem _
  have hwl := hpm _ hwm
  rw [drop_getD (d := ([] : List UInt8)) hi2] at hq
  have l1 := tK.load (Ext.refl _) hi2
  generalize pl.getD i [] = w at hwl hq l1
  (repeat(first|refine yw ?_|((first|apply yd|apply ye);simp (disch:=first|exact zz|fail) only[go_sem,tK.idx,l1];with_reducible rfl)))
  (refine aops_call_to (refNumber_c (l := w) (d := 4) (by decide) (by omega)) ?_)
  rw [← numSB (d := 4) (by decide)]
  cases hq1 : numS 4 w with
  | none =>
    rw [numsS_none hq1] at hq
    have hq : numsS 4 pl = none := hq
    rw [hq] at hP
    have hP : parseFilterL l = (([],0),7) := hP
    (repeat(first|refine yw ?_|((first|apply yd|apply ye);simp (disch:=first|exact zz|fail) only[go_sem,Option.isSome_none];with_reducible rfl)))
    refine cond_t rfl ?_
    (repeat(first|refine yw ?_|((first|apply yd|apply ye);simp (disch:=first|exact zz|fail) only[go_sem,hst2];with_reducible rfl)))
    exact fin_l2 fin0 (bad _ hP)
  | some n =>
    have hsg := numS_sign hq1
    have hwp : (0 : Int) < (w.length : Int) := by omega
    rw [numsS_cons hq1] at hq
    have hrest : ∀ {K' : AHeap},FSt G K' (H.length + 2) (ns ++ [n]) → _ := fun {K'} h => (⟨ns ++ [n],h,by simp [hns],by rw [hq]; cases numsS 4 (pl.drop (i + 1)) <;> simp⟩ : ∃ ms : List Int,FSt G K' (H.length + 2) ms ∧ ms.length = i + 1 ∧ numsS 4 pl = (numsS 4 (pl.drop (i + 1))).map (ms ++ ·))
    rcases hst with ⟨rfl,hb⟩ | ⟨d,c,v,rfl,hd,hb,ho⟩
    · obtain rfl : i = 0 := hns.symm
      by_cases h0 : 0 ≤ n
      rotate_left 1
      · have hP : parseFilterL l = (([],0),7) := by
          rw [hP,hq]
          cases numsS 4 (pl.drop (0 + 1)) with
          | none => rfl
          | some r => show (if 0 ≤ n then _ else _) = _; rw [if_neg h0]
        (repeat(first|refine yw ?_|((first|apply yd|apply ye);simp (disch:=first|exact zz|fail) only[go_sem,Option.isSome_some,dec_t (show ((0 : Nat) : Int) = 0 from rfl),tK.len,tK.idx,l1,dec_t (show at8 w 0 = 45 from hsg.2.2 (by omega))];with_reducible rfl)))
        refine cond_t rfl ?_
        (repeat(first|refine yw ?_|((first|apply yd|apply ye);simp (disch:=first|exact zz|fail) only[go_sem,hst2];with_reducible rfl)))
        exact fin_l2 fin0 (bad _ hP)
      have hsd : storeR 1 (.pointer (some ⟨H.length + 2,1,none⟩)) (.int .i64 n) K = some (undef,K.set (H.length + 2) (.cells true 0 [nilS,.int .i64 n])) := store_in (i := 1) hb (by simp) rfl rfl
      have hF : FSt G (K.set (H.length + 2) (.cells true 0 [nilS,.int .i64 n])) (H.length + 2) ([] ++ [n]) := ⟨hk.set (.inl rfl) _,.inr ⟨n,[],nilS,rfl,h0,get_set_self hb,OwnI.nil _ _⟩⟩
      obtain ⟨ms,m1,m2,m3⟩ := hrest hF
      (repeat(first|refine yw ?_|((first|apply yd|apply ye);simp (disch:=first|exact zz|fail) only[go_sem,Option.isSome_some,dec_t (show ((0 : Nat) : Int) = 0 from rfl),tK.len,tK.idx,l1,dec_f (show ¬ at8 w 0 = 45 from fun h => absurd (hsg.2.1 h) (by omega))];with_reducible rfl)))
      refine cond_f rfl ?_
      (repeat(first|refine yw ?_|((first|apply yd|apply ye);simp (disch:=first|exact zz|fail) only[go_sem,dec_t (show ((0 : Nat) : Int) = 0 from rfl)];with_reducible rfl)))
      refine cond_t rfl ?_
      (repeat(first|refine yw ?_|((first|apply yd|apply ye);simp (disch:=first|exact zz|fail) only[go_sem,Option.getD_some,hsd,e1];with_reducible rfl)))
      exact ⟨by omega,ms,by simp [forget],m1,m2,m3⟩
    · have hi0 : ¬ (i : Int) = 0 := by simp at hns; omega
      have hcl : c.length ≤ 60001 := by simp at hns; omega
      (repeat(first|refine yw ?_|((first|apply yd|apply ye);simp (disch:=first|exact zz|fail) only[go_sem,Option.isSome_some,dec_f hi0];with_reducible rfl)))
      refine cond_f rfl ?_
      (repeat(first|refine yw ?_|((first|apply yd|apply ye);simp (disch:=first|exact zz|fail) only[go_sem,dec_f hi0];with_reducible rfl)))
      refine cond_f rfl ?_
      have hne : v = .slice none 0 0 ∨ idOf v ≠ H.length + 2 := ho.nil_or (ho.aside (by omega))
      have lv : loadR (.pointer (some ⟨H.length + 2,0,none⟩)) K = some (v,K) := by rw [load_at hb]; rfl
      have hb2 := pushH_at (l := c) (x := n) hb hne
      have hsv : storeR 1 (.pointer (some ⟨H.length + 2,0,none⟩)) (pushV K c.length) (pushH K v c n) = some (undef,(pushH K v c n).set (H.length + 2) (.cells true 0 [pushV K c.length,.int .i64 d])) := store_in (i := 0) hb2 (by simp) rfl rfl
      have hcb : c.length < 1000000000 := by omega
      have hF : FSt G ((pushH K v c n).set (H.length + 2) (.cells true 0 [pushV K c.length,.int .i64 d])) (H.length + 2) ((d :: c) ++ [n]) :=
        ⟨(hk.push ho (Nat.le_refl _) n).set (.inl rfl) _,.inr ⟨d,c ++ [n],pushV K c.length,rfl,hd,get_set_self hb2,(ho.pushed2 hk.1 n).set_lt (by omega) _⟩⟩
      obtain ⟨ms,m1,m2,m3⟩ := hrest hF
      (repeat(first|refine yw ?_|((first|apply yd|apply ye);simp (disch:=first|exact zz|fail) only[go_sem,Option.getD_some,lv,ho.push hcb,hsv,e1];with_reducible rfl)))
      exact ⟨by omega,ms,by simp [forget],m1,m2,m3⟩
end
end Go.Lq

namespace Go.Lq
open Go
open Go.Proofs
theorem cut_join {c : UInt8} {a : List UInt8} (h : c ∉ a) (r : List UInt8) : Lib.cut (a ++ c :: r) [c] = (a,r,true) := by
  have e : Lib.index (a ++ c :: r) [c] = (a.length : Int) := by
    induction a with
    | nil => exact index_eq ..
    | cons b s ih =>
      have hb : b ≠ c := fun e => h (by rw [e]; exact List.mem_cons_self ..)
      have hs : c ∉ s := fun e => h (List.mem_cons_of_mem _ e)
      show Lib.index (b :: (s ++ c :: r)) [c] = _
      rw [index_ne hb,ih hs,if_neg (by omega)]
      simp
  unfold Lib.cut
  rw [e,if_pos (by omega)]
  simp [List.drop_append]
theorem numP_4 {n : Int} (h0 : 0 ≤ n) (h1 : n ≤ 1000) : numP 4 (Lib.itoa n) = some n := by
  have h4 : ((10 ^ 4 : Nat) : Int) = 10000 := by decide
  exact numP_itoa (d := 4) (k := 4) (by decide) (by decide) h0 (by rw [h4]; omega) (by omega)
theorem numP_13 {n : Int} (h0 : 0 ≤ n) (h1 : n ≤ 1000000000000) : numP 13 (Lib.itoa n) = some n := by
  have h4 : ((10 ^ 13 : Nat) : Int) = 10000000000000 := by decide
  exact numP_itoa (d := 13) (k := 13) (by decide) (by decide) h0 (by rw [h4]; omega) (by omega)
theorem pathT_two (a b : Int) : pathT [a,b] = Lib.itoa a ++ 32 :: Lib.itoa b := by
  unfold pathT
  show Lib.join [Lib.itoa a,Lib.itoa b] [32] = _
  rw [Lib.join_cons]
  simp [Lib.joinTail]
theorem firstErr_two {a b : Int} (h : firstErr [a,b] = 0) : a = 0 ∧ b = 0 := by
  by_cases ha : a = 0
  · subst ha
    rw [firstErr_z] at h
    by_cases hb : b = 0
    · exact ⟨rfl,hb⟩
    · rw [firstErr_e hb] at h; exact absurd h hb
  · rw [firstErr_e ha] at h; exact absurd h ha
theorem firstErr_three {a b c : Int} (h : firstErr [a,b,c] = 0) : a = 0 ∧ b = 0 ∧ c = 0 := by
  by_cases ha : a = 0
  · subst ha
    rw [firstErr_z] at h
    exact ⟨rfl,firstErr_two h⟩
  · rw [firstErr_e ha] at h; exact absurd h ha
theorem of_if {p : Prop} [Decidable p] {k : Int} (hk : k ≠ 0) (h : (if p then (0 : Int) else k) = 0) : p := by
  by_cases hp : p
  · exact hp
  · rw [if_neg hp] at h; exact absurd h hk
theorem nodes_ok {l : List (Int × Int)} (h : mapErrL l = 0) : l ≠ [] ∧ ∀ p ∈ l,NodeOk p := by
  have hk := mapErr_ok h
  refine ⟨fun e => by have := hk.lo; rw [e] at this; simp at this,fun p hp => ?_⟩
  obtain ⟨i,hi,e⟩ := List.getElem_of_mem hp
  have e2 : l.getD i (0,0) = p := by rw [List.getD_eq_getElem?_getD,List.getElem?_eq_getElem hi,← e]; rfl
  have h1 := hk.pos i hi
  have h2 := hk.time i hi
  rw [e2] at h1 h2
  exact ⟨h1,h2⟩
theorem rules_back {kind deg num den step : Int} {l : List (Int × Int)} (h : rulesErrL kind deg num den step l = 0) : parseRulesL (rulesT kind deg num den step l) = ((kind,deg,num,den,step,l),0) := by
  have hE : errR (kind,deg,num,den,step,l) = 0 := h
  unfold rulesErrL at h
  by_cases hk : 0 ≤ kind ∧ kind ≤ 1
  rotate_left 1
  · rw [if_neg hk] at h; cases h
  rw [if_pos hk] at h
  by_cases hd : degErrL deg = 0
  rotate_left 1
  · rw [if_neg hd] at h; exact absurd h hd
  rw [if_pos hd] at h
  have hd1 := degErr_ok hd
  have nd : numP 4 (Lib.itoa deg) = some deg := numP_4 (by omega) (by omega)
  by_cases h0 : kind = 0
  · rw [if_pos h0] at h
    subst h0
    obtain ⟨a1,a2⟩ := firstErr_two h
    have b1 := of_if (by decide) a1
    obtain ⟨rfl,b2⟩ := of_if (by decide) a2
    obtain rfl : l = [] := List.length_eq_zero_iff.1 (by omega)
    have e1 : rulesT 0 deg num den 0 [] = ratioB ++ 32 :: pathT [deg,num,den] := by
      unfold rulesT
      rw [if_pos rfl,List.append_assoc]
      rfl
    have hc : Lib.cut (rulesT 0 deg num den 0 []) [32] = (ratioB,pathT [deg,num,den],true) := by rw [e1]; exact cut_join (by decide) _
    unfold parseRulesL
    rw [hc]
    show (if ratioB = ratioB then _ else _) = _
    rw [if_pos rfl]
    show (match numsD [4,4,4] (cutL 32 (pathT [deg,num,den])) with | some [d,n,m] => chkR (0,d,n,m,0,[]) | _ => (zeroR,7)) = _
    rw [cut_path _ (by simp)]
    have e2 : numsD [4,4,4] (wordsT [deg,num,den]) = some [deg,num,den] := by
      show numsD [4,4,4] [Lib.itoa deg,Lib.itoa num,Lib.itoa den] = _
      rw [numsD_some nd,numsD_some (numP_4 (by omega) (by omega)),numsD_some (numP_4 (by omega) (by omega))]
      rfl
    rw [e2]
    exact chkR_ok hE
  · rw [if_neg h0] at h
    obtain rfl : kind = 1 := by omega
    obtain ⟨a1,a2,a3⟩ := firstErr_three h
    have b2 := of_if (by decide) a2
    obtain ⟨rfl,rfl⟩ := of_if (by decide) a3
    obtain ⟨n0,n1⟩ := nodes_ok a1
    have e1 : rulesT 1 deg 0 0 step l = mapB ++ 32 :: (Lib.itoa deg ++ 32 :: (Lib.itoa step ++ 32 :: mapT l)) := by
      unfold rulesT
      rw [if_neg (by decide),if_pos rfl,pathT_two]
      simp
    have hc : Lib.cut (rulesT 1 deg 0 0 step l) [32] = (mapB,Lib.itoa deg ++ 32 :: (Lib.itoa step ++ 32 :: mapT l),true) := by rw [e1]; exact cut_join (by decide) _
    have c1 := cut_join (itoa_digits (n := deg) (by omega) (c := 32) (by decide)) (Lib.itoa step ++ 32 :: mapT l)
    have c2 := cut_join (itoa_digits (n := step) (by omega) (c := 32) (by decide)) (mapT l)
    have e3 : cutN 32 2 (Lib.itoa deg ++ 32 :: (Lib.itoa step ++ 32 :: mapT l)) = [Lib.itoa deg,Lib.itoa step,mapT l] := by
      unfold cutN
      rw [c1]
      show (if true = true then Lib.itoa deg :: cutN 32 1 (Lib.itoa step ++ 32 :: mapT l) else _) = _
      rw [if_pos rfl]
      unfold cutN
      rw [c2]
      rfl
    have e2 : numsD [4,13] [Lib.itoa deg,Lib.itoa step] = some [deg,step] := by
      rw [numsD_some nd,numsD_some (numP_13 (by omega) (by omega))]
      rfl
    unfold parseRulesL
    rw [hc]
    show (if mapB = ratioB then _ else if mapB = mapB then (match cutN 32 2 (Lib.itoa deg ++ 32 :: (Lib.itoa step ++ 32 :: mapT l)) with
      | [a,b,c] => (match numsD [4,13] [a,b] with
        | some [d,st] => if (parseMapL c).2 = 0 then chkR (1,d,0,0,st,(parseMapL c).1) else (zeroR,(parseMapL c).2)
        | _ => (zeroR,7))
      | _ => (zeroR,7)) else _) = _
    rw [if_neg ratio_map,if_pos rfl,e3]
    show (match numsD [4,13] [Lib.itoa deg,Lib.itoa step] with
        | some [d,st] => if (parseMapL (mapT l)).2 = 0 then chkR (1,d,0,0,st,(parseMapL (mapT l)).1) else (zeroR,(parseMapL (mapT l)).2)
        | _ => (zeroR,7)) = _
    rw [e2]
    show (if (parseMapL (mapT l)).2 = 0 then chkR (1,deg,0,0,step,(parseMapL (mapT l)).1) else (zeroR,(parseMapL (mapT l)).2)) = _
    rw [parse_map a1 n0 n1,if_pos rfl]
    exact chkR_ok hE
theorem filter_back {c : List Int} {d : Int} (h : filterErrL c d = 0) : parseFilterL (filterT c d) = ((c,d),0) := by
  obtain ⟨_,_,h3,h4,h5⟩ := filterErr_ok h
  have h10 : ((10 ^ 4 : Nat) : Int) = 10000 := by decide
  unfold parseFilterL filterT
  rw [cut_path _ (by simp),show (4 : Int) = ((4 : Nat) : Int) from rfl,nums_back (k := 4) (by decide) (by decide) (d :: c) fun n hn => by
    rw [h10]
    rcases List.mem_cons.1 hn with rfl | hn
    · exact ⟨by omega,by omega,by omega,by omega⟩
    · obtain ⟨i,hi,e⟩ := List.getElem_of_mem hn
      have := h3 i
      rw [List.getD_eq_getElem?_getD,List.getElem?_eq_getElem hi,e] at this
      have : -1000 ≤ n ∧ n ≤ 1000 := this
      exact ⟨by omega,by omega,by omega,by omega⟩]
  show (if 0 ≤ d then (if filterErrL c d = 0 then ((c,d),0) else (([],0),filterErrL c d)) else (([],0),7)) = _
  rw [if_pos (by omega),if_pos h]
theorem chkR_len {r : RulesT} (h : r.2.2.2.2.2.length ≤ 20) : (chkR r).1.2.2.2.2.2.length ≤ 20 := by
  unfold chkR
  split
  · exact h
  · show ([] : List (Int × Int)).length ≤ 20; simp
theorem parsed_len (l : List UInt8) : (parseMapL l).1.length ≤ 20 := by
  unfold parseMapL
  split
  · simp
  · split
    · rename_i h; exact (mapErr_ok h).hi
    · simp
theorem zero_len : (zeroR,(7 : Int)).1.2.2.2.2.2.length ≤ 20 := by simp [zeroR]
theorem rules_len (l : List UInt8) : (parseRulesL l).1.2.2.2.2.2.length ≤ 20 := by
  unfold parseRulesL
  split
  · split
    · exact chkR_len (by simp)
    · exact zero_len
  · split
    · split
      · split
        · split
          · exact chkR_len (parsed_len _)
          · simp [zeroR]
        · exact zero_len
      · exact zero_len
    · exact zero_len
theorem filter_len (l : List UInt8) : (parseFilterL l).1.1.length ≤ 8 := by
  unfold parseFilterL
  split
  · split
    · split
      · rename_i h; exact (filterErr_ok h).2.1
      · simp
    · simp
  · simp
theorem i64_of {n : Int} (h : InI64 n) : i64 n := by unfold InI64 at h; unfold i64; omega
theorem InB.of {l : List (Int × Int)} (h : InP l) : InB l := fun p hp => by
  obtain ⟨i,hi,e⟩ := List.getElem_of_mem hp
  have := h i
  have e2 : l.getD i (0,0) = p := by rw [List.getD_eq_getElem?_getD,List.getElem?_eq_getElem hi,← e]; rfl
  rw [e2] at this
  exact ⟨i64_of this.1,i64_of this.2⟩
theorem Rep.str_inv {P : Program} {H : AHeap} {t : TypeId} {vs : List Value} (ht : P.underlying t = some .string) (h : Rep P H t vs) : ∃ s,vs = [.string s] ∧ s.size ≤ maxLen := by
  cases h with
  | string h hs => exact ⟨_,rfl,hs⟩
  | bool h => rw [ht] at h; cases h
  | int h => rw [ht] at h; cases h
  | nil h => rw [ht] at h; cases h
  | empty h => rw [ht] at h; cases h
  | slice h => rw [ht] at h; cases h
  | struct h => rw [ht] at h; cases h
  | array h => rw [ht] at h; cases h
theorem RepA.str {P : Program} {H : AHeap} {t : TypeId} {v : Value} (ht : P.underlying t = some .string) (h : RepA P H t v) : ∃ l : List UInt8,v = .string (bs l) ∧ l.length ≤ maxLen := by
  obtain ⟨s,e,hs⟩ := (h.flat (fun _ e => by rw [ht] at e; cases e) (fun _ _ e => by rw [ht] at e; cases e)).str_inv ht
  cases e
  refine ⟨s.data.toList,by rw [← bs_of],?_⟩
  have : s.size = s.data.toList.length := by cases s; simp [ByteArray.size]
  omega
theorem cells3 : Tryz.prog.cellsOf 3 = 1 := by kernel_rfl
theorem repFilter {H : AHeap} {v : Value} (h : RepA Tryz.prog H 41 v) : ∃ s c d,v = .agg ⟨[s,.int .i64 d]⟩ ∧ Ints H c s ∧ c.length ≤ maxLen ∧ (∀ n ∈ c,InI64 n) ∧ InI64 d := by
  obtain ⟨s,l,rfl,hl,hs,hi⟩ := h.headed (d := 5) (n := 1) Tryz.underlying41 (by kernel_rfl) rfl rfl (by kernel_rfl) (by kernel_rfl) (by kernel_rfl)
  match l,hl with
  | [d],_ =>
    obtain ⟨c,h1,h2,h3⟩ := (RepA.of_slice Tryz.underlying22 hs).ints Tryz.underlying22 Tryz.underlying3 (by kernel_rfl)
    exact ⟨s,c,d,rfl,h1,h2,h3,hi d (by simp)⟩
set_option maxRecDepth 100000 in
theorem repMap {H : AHeap} {s : Value} (h : Rep Tryz.prog H 37 [s]) : ∃ l,Pairs H l s ∧ l.length ≤ maxLen ∧ InP l := by
  obtain ⟨_,hf⟩ := h.struct_inv Tryz.underlying37
  have h0 : Rep Tryz.prog H 35 (([s].drop 0).take (Tryz.prog.cellsOf 35)) := hf 0 _ rfl
  rw [show Tryz.prog.cellsOf 35 = 1 by kernel_rfl] at h0
  have h1 : Rep Tryz.prog H 35 [s] := h0
  obtain ⟨l,h2,h3,h4⟩ := (RepA.of_slice Tryz.underlying35 h1).pairs Tryz.underlying35 Tryz.underlying172 (by kernel_rfl) rfl rfl rfl rfl Tryz.underlying3 Tryz.underlying3 cells3 cells3
  exact ⟨l,h2,h3,h4⟩
set_option maxRecDepth 100000 in
theorem repRules {H : AHeap} {v : Value} (h : RepA Tryz.prog H 39 v) : ∃ kind deg num den step s l,v = rulesV kind deg num den step s ∧ Pairs H l s ∧ l.length ≤ maxLen ∧ InP l ∧ i64 deg ∧ i64 num ∧ i64 den ∧ i64 step := by
  obtain ⟨acs,rfl,hr⟩ := h.struct Tryz.underlying39
  obtain ⟨hl,hf⟩ := hr.struct_inv Tryz.underlying39
  rw [show Tryz.prog.cellsOf 39 = 6 by kernel_rfl] at hl
  match acs,hl with
  | [a,b,c,d,e,s],_ =>
    have h0 : Rep Tryz.prog H 3 (([a,b,c,d,e,s].drop 0).take (Tryz.prog.cellsOf 3)) := hf 0 _ rfl
    have h1 : Rep Tryz.prog H 3 (([a,b,c,d,e,s].drop 1).take (Tryz.prog.cellsOf 3)) := hf 1 _ rfl
    have h2 : Rep Tryz.prog H 3 (([a,b,c,d,e,s].drop 2).take (Tryz.prog.cellsOf 3)) := hf 2 _ rfl
    have h3 : Rep Tryz.prog H 3 (([a,b,c,d,e,s].drop 3).take (Tryz.prog.cellsOf 3)) := hf 3 _ rfl
    have h4 : Rep Tryz.prog H 3 (([a,b,c,d,e,s].drop 4).take (Tryz.prog.cellsOf 3)) := hf 4 _ rfl
    have h5 : Rep Tryz.prog H 37 (([a,b,c,d,e,s].drop 5).take (Tryz.prog.cellsOf 37)) := hf 5 _ rfl
    rw [cells3] at h0 h1 h2 h3 h4
    rw [show Tryz.prog.cellsOf 37 = 1 by kernel_rfl] at h5
    obtain ⟨n0,e0,_⟩ := h0.int_inv Tryz.underlying3
    obtain ⟨n1,e1,w1⟩ := h1.int_inv Tryz.underlying3
    obtain ⟨n2,e2,w2⟩ := h2.int_inv Tryz.underlying3
    obtain ⟨n3,e3,w3⟩ := h3.int_inv Tryz.underlying3
    obtain ⟨n4,e4,w4⟩ := h4.int_inv Tryz.underlying3
    have e0' : [a] = [.int .i64 n0] := e0
    have e1' : [b] = [.int .i64 n1] := e1
    have e2' : [c] = [.int .i64 n2] := e2
    have e3' : [d] = [.int .i64 n3] := e3
    have e4' : [e] = [.int .i64 n4] := e4
    cases e0'; cases e1'; cases e2'; cases e3'; cases e4'
    obtain ⟨l,h6,h7,h8⟩ := repMap (s := s) h5
    exact ⟨n0,n1,n2,n3,n4,s,l,rfl,h6,h7,h8,i64_of (wf_i64 w1),i64_of (wf_i64 w2),i64_of (wf_i64 w3),i64_of (wf_i64 w4)⟩
end Go.Lq

namespace Go.Lq
open Go
open Go.Proofs
set_option maxRecDepth 100000 in
set_option maxHeartbeats 8000000 in
theorem law4 {H : AHeap} {avs : List Value} (hS : ∃ m t u,Ext (S0 m t u) H) (h : RepAll Tryz.prog H [39,41,9] avs) : ACall Tryz.prog 4 avs H fun v _ => v = .bool true := by
  obtain ⟨m,t,u,hx⟩ := hS
  have hs0 := strH0 hx
  have hW0 : WordsAt H := ext_at hx rfl
  obtain ⟨a,b,cc,rfl,h1,h2,h3⟩ := h.three
  obtain ⟨kind,deg,num,den,step,v,l,rfl,hl,hlm,hin,b1,b2,b3,b4⟩ := repRules h1
  obtain ⟨w,c,d,rfl,hc,hcm,hci,bd⟩ := repFilter h2
  obtain ⟨s,rfl,hsl⟩ := h3.str Tryz.underlying9
  have hb := InB.of hin
  have hw : InW c := fun n hn => i64_of (hci n hn)
  have bd := i64_of bd
  (refine a4 ?_; simp only [n4,List.replicate,yq,yr,yt,yu]; first | refine Go.Lq.q1 ?_ | refine Go.Lq.q2 ?_ | refine Go.Lq.q6 ?_ | refine Go.Lq.q7 ?_ | refine Go.Lq.qh rfl ?_ | skip)
  obtain ⟨G,hG⟩ : ∃ G,G = H ++ [AObj.cells true 0 (rulesC kind deg num den step v)] ++ [AObj.cells true 0 [w,.int .i64 d]] := ⟨_,rfl⟩
  have g0 : G[H.length]? = some (.cells true 0 (rulesC kind deg num den step v)) := by rw [hG]; exact at_app at_new
  have g1 : G[H.length + 1]? = some (.cells true 0 [w,.int .i64 d]) := by rw [hG]; simp
  have xG : Ext H G := by rw [hG]; exact ((Ext.refl H).app _).app _
  have hc' := hc.ext ((Ext.refl H).app [AObj.cells true 0 (rulesC kind deg num den step v)])
  (repeat (first | refine yv ?_ | (apply yd; simp (disch:=first|exact zz|fail) only[go_sem,box_rules hl.atom,hc'.box2];with_reducible rfl)))
  (simp only [List.length_append,List.length_cons,List.length_nil,Nat.zero_add,Nat.add_assoc,Nat.reduceAdd])
  rw [← hG]
  clear hG hc'
  have hxG := hx.trans xG
  have hsG := hs0.ext xG
  have hWG := hW0.ext xG
  have k0 := hl.ext xG
  have c0 := hc.ext xG
  (refine aops_call_to (awakeS_c hxG) ?_)
  (refine yg ?_)
  refine cond_f rfl ?_
  (repeat(first|refine yw ?_|((first|apply yd|apply ye);simp (disch:=first|exact zz|fail) only[go_sem,load_map g0];with_reducible rfl)))
  (refine aops_call_to (few_c k0) ?_)
  by_cases hf : l.length ≤ 22
  rotate_left 1
  · (repeat(first|refine yw ?_|((first|apply yd|apply ye);simp (disch:=first|exact zz|fail) only[go_sem,dec_f hf];with_reducible rfl)))
    refine cond_t rfl ?_
    (refine yg ?_)
    exact fin_1 rfl
  (repeat(first|refine yw ?_|((first|apply yd|apply ye);simp (disch:=first|exact zz|fail) only[go_sem,dec_t hf,n2_at g1];with_reducible rfl)))
  (refine aops_call_to (taps_c c0) ?_)
  by_cases ht : c.length ≤ 10
  rotate_left 1
  · (repeat(first|refine yw ?_|((first|apply yd|apply ye);simp (disch:=first|exact zz|fail) only[go_sem,dec_t hf,dec_f ht];with_reducible rfl)))
    refine cond_t rfl ?_
    (refine yg ?_)
    exact fin_1 rfl
  by_cases h600 : (600 : Int) < (s.length : Int)
  · (repeat(first|refine yw ?_|((first|apply yd|apply ye);simp (disch:=first|exact zz|fail) only[go_sem,dec_t hf,dec_t ht,dec_t h600];with_reducible rfl)))
    refine cond_t rfl ?_
    (refine yg ?_)
    exact fin_1 rfl
  (repeat(first|refine yw ?_|((first|apply yd|apply ye);simp (disch:=first|exact zz|fail) only[go_sem,dec_t hf,dec_t ht,dec_f h600];with_reducible rfl)))
  refine cond_f rfl ?_
  have l6 : loadNR 6 (.pointer (some ⟨H.length,0,none⟩)) G = some (rulesV kind deg num den step v,G) := loadN_at g0 (by simp [rulesC])
  (repeat(first|refine yw ?_|((first|apply yd|apply ye);simp (disch:=first|exact zz|fail) only[go_sem,l6];with_reducible rfl)))
  refine adraw_call (copyRules_c k0 (by omega)) ?_
  obtain ⟨G1,hG1⟩ : ∃ G1,G1 = G ++ [AObj.cells true 2 (flatP l)] := ⟨_,rfl⟩
  have r1 : Pairs G1 l (.slice (some ⟨G.length,0,none⟩) l.length l.length) := by rw [hG1]; exact Pairs.last _
  have x1 : Ext G G1 := by rw [hG1]; exact (Ext.refl G).app _
  rw [← hG1]
  clear hG1
  (refine yg ?_)
  (refine adraw_call (N := []) (firstD (formatRules_c (hsG.ext x1) (hWG.ext x1) r1 (by omega) hb b1 b2 b3 b4)) ?_; rw [List.append_nil])
  (repeat(first|refine yw ?_|((first|apply yd|apply ye);simp (disch:=first|exact zz|fail) only[go_sem,n2_at (x1.cell g1)];with_reducible rfl)))
  refine adraw_call (copyFilter_c (c0.ext x1) (by omega)) ?_
  obtain ⟨G2,hG2⟩ : ∃ G2,G2 = G1 ++ [AObj.cells true 1 (c.map (.int .i64))] := ⟨_,rfl⟩
  have r2 : Ints G2 c (.slice (some ⟨G1.length,0,none⟩) c.length c.length) := by rw [hG2]; exact Ints.last _
  have x2 : Ext G G2 := by rw [hG2]; exact x1.app _
  rw [← hG2]
  clear hG2
  (refine yg ?_)
  (refine adraw_call (N := []) (firstD (formatFilter_c (hsG.ext x2) r2 (by omega) hw bd)) ?_; rw [List.append_nil])
  (refine yg ?_)
  obtain ⟨P1,hP1⟩ : ∃ P1,P1 = parseRulesL s := ⟨_,rfl⟩
  obtain ⟨P2,hP2⟩ : ∃ P2,P2 = parseFilterL s := ⟨_,rfl⟩
  have len1 := rules_len s
  have len2 := filter_len s
  have parse1 := parseRules_c (hsG.ext x2) (hWG.ext x2) (l := s) (by omega)
  rw [← hP1] at parse1 len1
  rw [← hP2] at len2
  obtain ⟨⟨k1,k2,k3,k4,k5,kl⟩,e1⟩ := P1
  obtain ⟨⟨fl,fd⟩,e2⟩ := P2
  have len1 : kl.length ≤ 20 := len1
  have len2 : fl.length ≤ 8 := len2
  refine aops_call (parse1.mono fun u1 G3 ⟨s1,hu1,y3,p1⟩ => ?_)
  subst hu1
  have y3 : Ext G2 G3 := y3
  have p1 : Pairs G3 kl s1 := p1
  have x3 := x2.trans y3
  have hst3 : storeR 6 (.pointer (some ⟨G3.length,0,none⟩)) (rulesV k1 k2 k3 k4 k5 s1) (G3 ++ [.cells true 0 [.int .i64 0,.int .i64 0,.int .i64 0,.int .i64 0,.int .i64 0,.slice none 0 0]]) = some (undef,G3 ++ [.cells true 0 (rulesC k1 k2 k3 k4 k5 s1)]) :=
    store_newN (by simp [p1.atom,isAtom_int]) rfl rfl
  (repeat(first|refine yw ?_|((first|apply yd|apply ye);simp (disch:=first|exact zz|fail) only[go_sem,hst3];with_reducible rfl)))
  obtain ⟨G4,hG4⟩ : ∃ G4,G4 = G3 ++ [AObj.cells true 0 (rulesC k1 k2 k3 k4 k5 s1)] := ⟨_,rfl⟩
  obtain ⟨i9,h9⟩ : ∃ i9,i9 = G3.length := ⟨_,rfl⟩
  have g9 : G4[i9]? = some (.cells true 0 (rulesC k1 k2 k3 k4 k5 s1)) := by rw [hG4,h9]; exact at_new
  have y4 : Ext G3 G4 := by rw [hG4]; exact (Ext.refl G3).app _
  have x4 := x3.trans y4
  rw [← hG4,← h9]
  clear hG4 h9
  have parse2 := parseFilter_c (hsG.ext x4) (l := s) (by omega)
  rw [← hP2] at parse2
  refine aops_call (parse2.mono fun u2 G5 ⟨s2,hu2,y5,p2⟩ => ?_)
  subst hu2
  have p2 : Ints G5 fl s2 := p2
  have x5 := x4.trans y5
  have hst5 : storeR 2 (.pointer (some ⟨G5.length,0,none⟩)) (.agg ⟨[s2,.int .i64 fd]⟩) (G5 ++ [.cells true 0 [.slice none 0 0,.int .i64 0]]) = some (undef,G5 ++ [.cells true 0 [s2,.int .i64 fd]]) := store_newN (by simp [p2.atom,isAtom_int]) rfl rfl
  (repeat(first|refine yw ?_|((first|apply yd|apply ye);simp (disch:=first|exact zz|fail) only[go_sem,hst5];with_reducible rfl)))
  obtain ⟨G6,hG6⟩ : ∃ G6,G6 = G5 ++ [AObj.cells true 0 [s2,.int .i64 fd]] := ⟨_,rfl⟩
  obtain ⟨i11,h11⟩ : ∃ i11,i11 = G5.length := ⟨_,rfl⟩
  have g11 : G6[i11]? = some (.cells true 0 [s2,.int .i64 fd]) := by rw [hG6,h11]; exact at_new
  have y6 : Ext G5 G6 := by rw [hG6]; exact (Ext.refl G5).app _
  have x6 := x5.trans y6
  rw [← hG6,← h11]
  clear hG6 h11
  have parse3 := rParseRules_c (H := G6) (l := s) (by omega)
  rw [← hP1] at parse3
  refine aops_call (parse3.mono fun u3 G7 ⟨s3,hu3,y7,p3⟩ => ?_)
  subst hu3
  have p3 : Pairs G7 kl s3 := p3
  have x7 := x6.trans y7
  have hst7 : storeR 6 (.pointer (some ⟨G7.length,0,none⟩)) (rulesV k1 k2 k3 k4 k5 s3) (G7 ++ [.cells true 0 [.int .i64 0,.int .i64 0,.int .i64 0,.int .i64 0,.int .i64 0,.slice none 0 0]]) = some (undef,G7 ++ [.cells true 0 (rulesC k1 k2 k3 k4 k5 s3)]) :=
    store_newN (by simp [p3.atom,isAtom_int]) rfl rfl
  (repeat(first|refine yw ?_|((first|apply yd|apply ye);simp (disch:=first|exact zz|fail) only[go_sem,hst7];with_reducible rfl)))
  obtain ⟨G8,hG8⟩ : ∃ G8,G8 = G7 ++ [AObj.cells true 0 (rulesC k1 k2 k3 k4 k5 s3)] := ⟨_,rfl⟩
  obtain ⟨i13,h13⟩ : ∃ i13,i13 = G7.length := ⟨_,rfl⟩
  have g13 : G8[i13]? = some (.cells true 0 (rulesC k1 k2 k3 k4 k5 s3)) := by rw [hG8,h13]; exact at_new
  have y8 : Ext G7 G8 := by rw [hG8]; exact (Ext.refl G7).app _
  have x8 := x7.trans y8
  rw [← hG8,← h13]
  clear hG8 h13
  have parse4 := rParseFilter_c (H := G8) (l := s) (by omega)
  rw [← hP2] at parse4
  refine aops_call (parse4.mono fun u4 G9 ⟨s4,hu4,y9,p4⟩ => ?_)
  subst hu4
  have p4 : Ints G9 fl s4 := p4
  have x9 := x8.trans y9
  have hst9 : storeR 2 (.pointer (some ⟨G9.length,0,none⟩)) (.agg ⟨[s4,.int .i64 fd]⟩) (G9 ++ [.cells true 0 [.slice none 0 0,.int .i64 0]]) = some (undef,G9 ++ [.cells true 0 [s4,.int .i64 fd]]) := store_newN (by simp [p4.atom,isAtom_int]) rfl rfl
  (repeat(first|refine yw ?_|((first|apply yd|apply ye);simp (disch:=first|exact zz|fail) only[go_sem,hst9];with_reducible rfl)))
  obtain ⟨K,hK⟩ : ∃ K,K = G9 ++ [AObj.cells true 0 [s4,.int .i64 fd]] := ⟨_,rfl⟩
  obtain ⟨i15,h15⟩ : ∃ i15,i15 = G9.length := ⟨_,rfl⟩
  have g15 : K[i15]? = some (.cells true 0 [s4,.int .i64 fd]) := by rw [hK,h15]; exact at_new
  have yK : Ext G9 K := by rw [hK]; exact (Ext.refl G9).app _
  have xK := x9.trans yK
  rw [← hK,← h15]
  clear hK h15
  have z9 : Ext G8 K := y9.trans yK
  have z7 : Ext G6 K := (y7.trans y8).trans z9
  have z5 : Ext G4 K := (y5.trans y6).trans z7
  have o0 := xK.cell g0
  have o1 := xK.cell g1
  have o9 := z5.cell g9
  have o11 := z7.cell g11
  have o13 := z9.cell g13
  have kK := k0.ext xK
  have cK := c0.ext xK
  have j0 : loadNR 6 (.pointer (some ⟨H.length,0,none⟩)) K = some (rulesV kind deg num den step v,K) := loadN_at o0 (by simp [rulesC])
  have j9 : loadNR 6 (.pointer (some ⟨i9,0,none⟩)) K = some (rulesV k1 k2 k3 k4 k5 s1,K) := loadN_at o9 (by simp [rulesC])
  have j13 : loadNR 6 (.pointer (some ⟨i13,0,none⟩)) K = some (rulesV k1 k2 k3 k4 k5 s3,K) := loadN_at o13 (by simp [rulesC])
  (repeat(first|refine yw ?_|((first|apply yd|apply ye);simp (disch:=first|exact zz|fail) only[go_sem,j0];with_reducible rfl)))
  (refine aops_call_to (rFormatRules_c kK (by omega) hb b1 b2 b3 b4) ?_)
  (repeat(first|refine yw ?_|((first|apply yd|apply ye);simp (disch:=first|exact zz|fail) only[go_sem,dec_f (show ¬ rulesT kind deg num den step l ≠ rulesT kind deg num den step l from fun h => h rfl),n2_at o1];with_reducible rfl)))
  (refine aops_call_to (rFormatFilter_c cK (by omega) hw bd) ?_)
  (repeat(first|refine yw ?_|((first|apply yd|apply ye);simp (disch:=first|exact zz|fail) only[go_sem,dec_f (show ¬ filterT c d ≠ filterT c d from fun h => h rfl),dec_f (show ¬ e1 ≠ e1 from fun h => h rfl),j9,j13];with_reducible rfl)))
  (refine aops_call_to (sameRules_c (p1.ext (y4.trans z5)) (p3.ext (y8.trans z9)) (by omega)) ?_)
  (repeat(first|refine yw ?_|((first|apply yd|apply ye);simp (disch:=first|exact zz|fail) only[go_sem,dec_f (show ¬ e2 ≠ e2 from fun h => h rfl),n2_at o11,n2_at g15];with_reducible rfl)))
  (refine aops_call_to (sameFilter_c (p2.ext (y6.trans z7)) (p4.ext yK) (by omega) (by omega)) ?_)
  rw [dec_t (show fl = fl ∧ fd = fd from ⟨rfl,rfl⟩)]
  (refine yg ?_)
  refine cond_f rfl ?_
  (repeat(first|refine yw ?_|((first|apply yd|apply ye);simp (disch:=first|exact zz|fail) only[go_sem,j0];with_reducible rfl)))
  (refine aops_call_to (rRulesErr_c kK (by omega)) ?_)
  have lenT := pathT_length (l := d :: c) (fun n hn => by rcases List.mem_cons.1 hn with rfl | h; exact bd; exact hw n h)
  have lenT : (filterT c d).length ≤ 22 * (c.length + 1) := lenT
  have sK := hsG.ext xK
  have WK := hWG.ext xK
  by_cases he : rulesErrL kind deg num den step l = 0
  rotate_left 1
  · (repeat(first|refine yw ?_|((first|apply yd|apply ye);simp (disch:=first|exact zz|fail) only[go_sem,dec_f he];with_reducible rfl)))
    refine cond_f rfl ?_
    (repeat(first|refine yw ?_|((first|apply yd|apply ye);simp (disch:=first|exact zz|fail) only[go_sem,n2_at o1];with_reducible rfl)))
    (refine aops_call_to (refFilterErr_c cK (by omega)) ?_)
    by_cases hz : filterErrL c d = 0
    rotate_left 1
    · (repeat(first|refine yw ?_|((first|apply yd|apply ye);simp (disch:=first|exact zz|fail) only[go_sem,dec_t (show filterErrL c d ≠ 0 from hz)];with_reducible rfl)))
      refine cond_t rfl ?_
      (refine yg ?_)
      exact fin_1 rfl
    rw [hz]
    (refine yg ?_)
    refine cond_f rfl ?_
    (refine yg ?_)
    have parse6 := parseFilter_c sK (l := filterT c d) (by omega)
    rw [filter_back hz] at parse6
    refine aops_call (parse6.mono fun u6 M1 ⟨s6,hu6,w1,p6⟩ => ?_)
    subst hu6
    have p6 : Ints M1 c s6 := p6
    have w1 : Ext K M1 := w1
    have hst6 : storeR 2 (.pointer (some ⟨M1.length,0,none⟩)) (.agg ⟨[s6,.int .i64 d]⟩) (M1 ++ [.cells true 0 [.slice none 0 0,.int .i64 0]]) = some (undef,M1 ++ [.cells true 0 [s6,.int .i64 d]]) := store_newN (by simp [p6.atom,isAtom_int]) rfl rfl
    (repeat(first|refine yw ?_|((first|apply yd|apply ye);simp (disch:=first|exact zz|fail) only[go_sem,hst6];with_reducible rfl)))
    have w2 : Ext M1 (M1 ++ [AObj.cells true 0 [s6,.int .i64 d]]) := (Ext.refl M1).app _
    have g19 : (M1 ++ [AObj.cells true 0 [s6,.int .i64 d]])[M1.length]? = some (.cells true 0 [s6,.int .i64 d]) := at_new
    generalize (M1 ++ [AObj.cells true 0 [s6,.int .i64 d]] : AHeap) = M2 at w2 g19
    (repeat(first|refine yw ?_|((first|apply yd|apply ye);simp (disch:=first|exact zz|fail) only[go_sem,n2_at g19,n2_at ((w1.trans w2).cell o1)];with_reducible rfl)))
    (refine aops_call_to (sameFilter_c (p6.ext w2) (cK.ext (w1.trans w2)) (by omega) (by omega)) ?_)
    rw [dec_t (show c = c ∧ d = d from ⟨rfl,rfl⟩)]
    (refine yg ?_)
    exact fin_1 rfl
  rw [he]
  (refine yg ?_)
  refine cond_t rfl ?_
  (refine yg ?_)
  have lenR : (rulesT kind deg num den step l).length ≤ 60000 := by
    have q1' := mapT_length hb
    have q2' := pathT_length (l := [deg,num,den]) (fun n hn => by simp at hn; rcases hn with rfl | rfl | rfl <;> assumption)
    have q3' := pathT_length (l := [deg,step]) (fun n hn => by simp at hn; rcases hn with rfl | rfl <;> assumption)
    have q2' : (pathT [deg,num,den]).length ≤ 66 := q2'
    have q3' : (pathT [deg,step]).length ≤ 44 := q3'
    unfold rulesT
    split
    · simp [ratioB]; omega
    · split
      · simp [mapB]; omega
      · simp
  have parse5 := parseRules_c sK WK (l := rulesT kind deg num den step l) lenR
  rw [rules_back he] at parse5
  refine aops_call (parse5.mono fun u5 L1 ⟨s5,hu5,v1,p5⟩ => ?_)
  subst hu5
  have v1 : Ext K L1 := v1
  have p5 : Pairs L1 l s5 := p5
  have hst5' : storeR 6 (.pointer (some ⟨L1.length,0,none⟩)) (rulesV kind deg num den step s5) (L1 ++ [.cells true 0 [.int .i64 0,.int .i64 0,.int .i64 0,.int .i64 0,.int .i64 0,.slice none 0 0]]) = some (undef,L1 ++ [.cells true 0 (rulesC kind deg num den step s5)]) :=
    store_newN (by simp [p5.atom,isAtom_int]) rfl rfl
  (repeat(first|refine yw ?_|((first|apply yd|apply ye);simp (disch:=first|exact zz|fail) only[go_sem,hst5'];with_reducible rfl)))
  have v2 : Ext L1 (L1 ++ [AObj.cells true 0 (rulesC kind deg num den step s5)]) := (Ext.refl L1).app _
  have g17 : (L1 ++ [AObj.cells true 0 (rulesC kind deg num den step s5)])[L1.length]? = some (.cells true 0 (rulesC kind deg num den step s5)) := at_new
  generalize (L1 ++ [AObj.cells true 0 (rulesC kind deg num den step s5)] : AHeap) = L2 at v2 g17
  have vK := v1.trans v2
  have j17 : loadNR 6 (.pointer (some ⟨L1.length,0,none⟩)) L2 = some (rulesV kind deg num den step s5,L2) := loadN_at g17 (by simp [rulesC])
  have j0' : loadNR 6 (.pointer (some ⟨H.length,0,none⟩)) L2 = some (rulesV kind deg num den step v,L2) := loadN_at (vK.cell o0) (by simp [rulesC])
  (repeat(first|refine yw ?_|((first|apply yd|apply ye);simp (disch:=first|exact zz|fail) only[go_sem,j17,j0'];with_reducible rfl)))
  (refine aops_call_to (sameRules_c (p5.ext v2) (kK.ext vK) (by omega)) ?_)
  (refine yg ?_)
  refine cond_f rfl ?_
  have oL := vK.cell o1
  have cL := cK.ext vK
  have sL := sK.ext vK
  (repeat(first|refine yw ?_|((first|apply yd|apply ye);simp (disch:=first|exact zz|fail) only[go_sem,n2_at oL];with_reducible rfl)))
  (refine aops_call_to (refFilterErr_c cL (by omega)) ?_)
  by_cases hz : filterErrL c d = 0
  rotate_left 1
  · (repeat(first|refine yw ?_|((first|apply yd|apply ye);simp (disch:=first|exact zz|fail) only[go_sem,dec_t (show filterErrL c d ≠ 0 from hz)];with_reducible rfl)))
    refine cond_t rfl ?_
    (refine yg ?_)
    exact fin_1 rfl
  rw [hz]
  (refine yg ?_)
  refine cond_f rfl ?_
  (refine yg ?_)
  have parse6 := parseFilter_c sL (l := filterT c d) (by omega)
  rw [filter_back hz] at parse6
  refine aops_call (parse6.mono fun u6 M1 ⟨s6,hu6,w1,p6⟩ => ?_)
  subst hu6
  have p6 : Ints M1 c s6 := p6
  have w1 : Ext L2 M1 := w1
  have hst6 : storeR 2 (.pointer (some ⟨M1.length,0,none⟩)) (.agg ⟨[s6,.int .i64 d]⟩) (M1 ++ [.cells true 0 [.slice none 0 0,.int .i64 0]]) = some (undef,M1 ++ [.cells true 0 [s6,.int .i64 d]]) := store_newN (by simp [p6.atom,isAtom_int]) rfl rfl
  (repeat(first|refine yw ?_|((first|apply yd|apply ye);simp (disch:=first|exact zz|fail) only[go_sem,hst6];with_reducible rfl)))
  have w2 : Ext M1 (M1 ++ [AObj.cells true 0 [s6,.int .i64 d]]) := (Ext.refl M1).app _
  have g19 : (M1 ++ [AObj.cells true 0 [s6,.int .i64 d]])[M1.length]? = some (.cells true 0 [s6,.int .i64 d]) := at_new
  generalize (M1 ++ [AObj.cells true 0 [s6,.int .i64 d]] : AHeap) = M2 at w2 g19
  (repeat(first|refine yw ?_|((first|apply yd|apply ye);simp (disch:=first|exact zz|fail) only[go_sem,n2_at g19,n2_at ((w1.trans w2).cell oL)];with_reducible rfl)))
  (refine aops_call_to (sameFilter_c (p6.ext w2) (cL.ext (w1.trans w2)) (by omega) (by omega)) ?_)
  rw [dec_t (show c = c ∧ d = d from ⟨rfl,rfl⟩)]
  (refine yg ?_)
  exact fin_1 rfl
end Go.Lq

namespace Go.Lq
open Go Go.ChangeShapes Go.WideShapes Go.ChangeAt Go.RowKit
open Go.Proofs
set_option maxRecDepth 100000 in
theorem lifted4 (os : Os) (started : os.Started) (X : Type) (enc : TypeId × Value → X) :
    ReturnsInHanded {} Tryz.checked os 4 .any (fun w args => (YtejkpmemicpheabGreatDoor.Rows.resampleStringsSpec.pre enc Tryz.prog Tryz.f4 [] false w args ∧ laidMetH Tryz.prog laidAll w) ∧ sizedMet enc Tryz.prog Tryz.f4 (OpenSpec.ofChange YtejkpmemicpheabGreatDoor.Rows.resampleStringsSpec) false w args)
      (YtejkpmemicpheabGreatDoor.Rows.resampleStringsSpec.post enc Tryz.prog Tryz.f4 false true false false) := by
  refine returnsInHanded_of_change_shaped (C := Tryz.checked) (X := fun w _ => laidMetH Tryz.prog laidAll w) (fun _ _ _ hh h => h.of_heap hh) own_knob started (by kernel_rfl) Tryz.func4
    (ChangeSpec.witness_shaped (enc := enc) (C := Tryz.checked) (os := os) (X := fun w _ => laidMetH Tryz.prog laidAll w) false (doorW os) #[.agg #[.int .i64 0,.int .i64 0,.int .i64 0,.int .i64 0,.int .i64 0,.slice none 0 0],.agg #[.slice none 0 0,.int .i64 0],.string ⟨#[]⟩] 12 (doorW_os os) (door_shaped os _) (by kernel_rfl) (by kernel_rfl) (by kernel_rfl) (door_met os _)) ?_
  intro W base args ds gs before hsh hval hW hL
  have hWw := hW
  obtain ⟨p,q,hA,_⟩ := hW
  obtain ⟨m0,t0,u0,hLd⟩ := of_laid hL hsh
  refine (calls_of_law (d := 20) hLd globs glob_at hA (fun j t v h1 h2 => hval j t v (by simpa using h1) (by simpa using h2)) (by kernel_rfl) fun H avs hx h => ?_).mono fun e W' ⟨he,hB⟩ => ?_
  · exact law4 (strH hx) (by rw [show Tryz.f4.params = #[39,41,9] from Tryz.params4] at h; exact h)
  · subst he
    exact ⟨_,rfl,law_post (bt := 4) laid_out rfl Tryz.underlying4 (by kernel_rfl) (by kernel_rfl) hWw (fun ds hd => by
      rw [show Tryz.f4.params = #[39,41,9] from Tryz.params4] at hd
      match ds,hd with
      | [a,b,c],_ => rfl) hB⟩
theorem unf4 : Tryz.prog.unfollowed 4 = true := by kernel_rfl
theorem rec4 : Tryz.prog.recurses 4 = true := by kernel_rfl
theorem named4 : Tryz.prog.varsNamed 4 = YtejkpmemicpheabGreatDoor.Rows.resampleStringsRow.named := by kernel_rfl
theorem facts4 : joinedFacts Tryz.prog 4 Tryz.f4 YtejkpmemicpheabGreatDoor.Rows.resampleStringsSpec YtejkpmemicpheabGreatDoor.Rows.resampleStringsRow = true := by
  unfold joinedFacts
  rw [may_enter,stops_heard,maps_rowed,laid_out,lifts_final,make_is,unf4,rec4,named4]
  kernel_rfl
theorem holds4 : YtejkpmemicpheabGreatDoor.Rows.ResampleStringsSaid :=
  OpenClaim.holds_of_wide 4 Tryz.f4 rfl rfl rfl rfl rfl rfl rfl ⟨rfl,rfl,rfl,rfl,rfl⟩ rfl rfl rfl rfl rfl (by kernel_rfl) Tryz.func4 facts4
    (of_decide_eq_true (by kernel_rfl)) (by unfold Func.isWrapper; first | (rw [if_pos (by decide +kernel)]; kernel_rfl) | (rw [if_neg (by decide +kernel)]; exact ⟨rfl,rfl⟩))
    (fun os started H enc _ => lifted4 os started H enc)
end Go.Lq
namespace Go.Proofs.YtejkpmemicpheabGreatDoor
open Go Go.Lq
theorem resampleStrings_proved : Rows.ResampleStringsCardSaid :=
  Claim7.holds_tied_plain_at .later [] [.data,.data,.data,.data,.sentinel,.sentinel,.widerDeep,.funcs,.pinned] true (true,"b6ed69e075042afda5914e78007f13ba12b7d006960e49b0d1e2d8922cba905d") true
    holds4 (fun _ h => by cases h) (by kernel_rfl) (fun _ h => by cases h) resampleStrings_row_tie rfl ⟨rfl,rfl⟩ main_is rfl
    (fun f fn hf hfn => by
      obtain rfl : f = 4 := Option.some.inj ((show Tryz.prog.funcNamed "lacquer/lacquerlaw04.ResampleStrings" = some 4 by kernel_rfl).symm.trans hf) |>.symm
      obtain rfl : fn = Tryz.f4 := (Option.some.inj (Tryz.func4.symm.trans hfn)).symm
      exact ⟨looks0,fun j t ht => by
        rw [Tryz.params4] at ht
        have hm : t ∈ [39,41,9] := by simpa using Array.mem_of_getElem? ht
        have hall : ([39,41,9].all fun u => !Tryz.prog.wantsStandIn u) = true := by kernel_rfl
        exact (show Tryz.prog.wantsStandIn t = false by simpa using List.all_eq_true.1 hall t hm)⟩)
    (by kernel_rfl)
end Go.Proofs.YtejkpmemicpheabGreatDoor
