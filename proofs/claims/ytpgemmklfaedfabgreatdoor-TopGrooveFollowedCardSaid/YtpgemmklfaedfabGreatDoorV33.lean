/- Towards TopGrooveFollowed of seat YtpgemmklfaedfabGreatDoor: it returns true for every input. Made out of the proof's own texts, merged. -/
import Derived.Lib.AtoiAllCases
import Derived.Lib.ItoaLen
import Derived.Lib.SplitLaws
import Derived.Test.YtpgemmklfaedfabGreatDoorV32
set_option linter.unusedSimpArgs false
set_option linter.unnecessarySimpa false
set_option linter.unusedVariables false
set_option linter.unusedSectionVars false
set_option maxRecDepth 100000
namespace Go.Lq
open Go
open Go.Proofs
def priceRow (w : Nat) (r : List Int) : Int := if r.length = w then (if r.all (sizedB 1000000) then 0 else 2) else 10
def priceRows (w : Nat) : List (List Int) → Int
  | [] => 0
  | r :: t => if priceRow w r = 0 then priceRows w t else priceRow w r
def mostL (ll : List (List Int)) (bend : Int) (pp : List (List Int)) (row c : Nat) : Int := if row = 0 then (ll.getD 0 []).getD c 0 else ceilL ll bend (pp.getD (row - 1) []) row c
def PricesOk (ll : List (List Int)) (bend : Int) (pp : List (List Int)) : Prop := ∀ row,row < pp.length → ∀ c,c < (ll.getD 0 []).length → (pp.getD row []).getD c 0 ≤ mostL ll bend pp row c
open Classical in
noncomputable def pricesErrL (ll : List (List Int)) (bend : Int) (pp : List (List Int)) : Int :=
  if pp.length = ll.length then (if priceRows (ll.getD 0 []).length pp = 0 then (if PricesOk ll bend pp then 0 else 19) else priceRows (ll.getD 0 []).length pp) else 10
def minTo (l : List Int) : Nat → Int
  | 0 => l.getD 0 0
  | n + 1 => min (minTo l n) (l.getD n 0)
def boundL (pp : List (List Int)) : Int := minTo (pp.getD (pp.length - 1) []) (pp.getD (pp.length - 1) []).length
theorem priceRows_step {w : Nat} {ll : List (List Int)} {i : Nat} (h : i < ll.length) : priceRows w (ll.drop i) = if priceRow w (ll.getD i []) = 0 then priceRows w (ll.drop (i + 1)) else priceRow w (ll.getD i []) := by
  rw [drop_getD (d := []) h]; rfl
theorem priceRows_end {w : Nat} {ll : List (List Int)} {i : Nat} (h : ll.length ≤ i) : priceRows w (ll.drop i) = 0 := by rw [drop_end h]; rfl
theorem priceRows_all {w : Nat} : ∀ {ll : List (List Int)},priceRows w ll = 0 → ∀ i,i < ll.length → priceRow w (ll.getD i []) = 0
  | [],_,i,hi => by simp at hi
  | r :: t,h,i,hi => by
    unfold priceRows at h
    by_cases hr : priceRow w r = 0
    · rw [if_pos hr] at h
      cases i with
      | zero => exact hr
      | succ i => simpa using priceRows_all h i (by simpa using hi)
    · rw [if_neg hr] at h; exact absurd h hr
theorem priceRow_ok {w : Nat} {r : List Int} (h : priceRow w r = 0) : r.length = w ∧ ∀ c : Nat,-1000000 ≤ r.getD c 0 ∧ r.getD c 0 ≤ 1000000 := by
  unfold priceRow at h
  split at h
  · rename_i h1
    split at h
    · rename_i h2
      refine ⟨h1,fun c => ?_⟩
      by_cases hc : c < r.length
      · have := List.all_eq_true.1 h2 _ (getD_mem (d := 0) hc)
        simpa [sizedB] using this
      · rw [getD_ge (by omega)]; omega
    · cases h
  · cases h
theorem ceilGo_le {bend : Int} {bef : List Int} {c : Nat} {k : Int} : ∀ {l : List Nat} {m : Int},k ≤ ceilGo bend bef c m l ↔ k ≤ m ∧ ∀ d ∈ l,k ≤ bef.getD d 0 + bendI bend d c
  | [],m => by simp [ceilGo]
  | d :: t,m => by
    rw [ceilGo,ceilGo_le]
    simp only [List.mem_cons,forall_eq_or_imp]
    exact ⟨fun ⟨h1,h2⟩ => ⟨by omega,by omega,h2⟩,fun ⟨h1,h2,h3⟩ => ⟨by omega,h3⟩⟩
theorem le_ceilL {ll : List (List Int)} {bend : Int} {bef : List Int} {row c : Nat} {n : Int} (hn : n ≤ 1000000) (hv : 0 ≤ (ll.getD row []).getD c 0) :
    n ≤ ceilL ll bend bef row c ↔ ∀ d ∈ nbL (ll.getD 0 []).length c,n ≤ (ll.getD row []).getD c 0 + bef.getD d 0 + bendI bend d c := by
  have := ceilGo_le (bend := bend) (bef := bef) (c := c) (k := n - (ll.getD row []).getD c 0) (l := nbL (ll.getD 0 []).length c) (m := 1000000)
  unfold ceilL
  constructor
  · intro h d hd
    have := (this.1 (by omega)).2 d hd; omega
  · intro h
    have := this.2 ⟨by omega,fun d hd => by have := h d hd; omega⟩
    omega
theorem minTo_le {l : List Int} : ∀ {n i : Nat},i < n → minTo l n ≤ l.getD i 0
  | 0,i,h => by omega
  | n + 1,i,h => by
    simp only [minTo]
    by_cases hi : i = n
    · subst hi; omega
    · have := minTo_le (l := l) (n := n) (i := i) (by omega); omega
theorem bound_cost {ll : List (List Int)} {bend : Int} {pp : List (List Int)} {p : List Int} (hpl : pp.length = ll.length) (hrows : priceRows (ll.getD 0 []).length pp = 0) (hok : PricesOk ll bend pp) (hp : pathErrL ll p = 0) (hg : gridErrL 40 12 ll = 0) :
    boundL pp ≤ costTo ll bend p p.length := by
  obtain ⟨w1,w2,w3,w4,w5,w6⟩ := gridErr_ok hg
  obtain ⟨pl,pv⟩ := pathErr_ok hp
  have hr := priceRows_all hrows
  have key : ∀ i,i < p.length → (pp.getD i []).getD (p.getD i 0).toNat 0 ≤ costTo ll bend p (i + 1) := fun i => by
    induction i with
    | zero =>
      intro hi
      obtain ⟨hb,_⟩ := pv 0 hi
      have h1 := hok 0 (by omega) (p.getD 0 0).toNat (by omega)
      simp only [mostL,if_true] at h1
      simp only [costTo,pixOf,bendAt,if_true]
      omega
    | succ i ih =>
      intro hi
      have hi1 := ih (by omega)
      obtain ⟨hb,hd⟩ := pv (i + 1) hi
      obtain ⟨hb0,_⟩ := pv i (by omega)
      rcases hd with hd | hd
      · omega
      simp only [Nat.add_sub_cancel] at hd
      have h1 := hok (i + 1) (by omega) (p.getD (i + 1) 0).toNat (by omega)
      rw [mostL,if_neg (by omega),Nat.add_sub_cancel] at h1
      have hvb := val_bound w6 (i + 1) (p.getD (i + 1) 0).toNat
      have hpb := (priceRow_ok (hr (i + 1) (by omega))).2 (p.getD (i + 1) 0).toNat
      have h2 := (le_ceilL hpb.2 hvb.1).1 h1 (p.getD i 0).toNat ((nbL_mem (by omega)).2 ⟨by omega,by omega,by omega⟩)
      have e1 : bendI bend ((p.getD i 0).toNat : Int) ((p.getD (i + 1) 0).toNat : Int) = bendAt bend p (i + 1) := by
        unfold bendAt
        rw [if_neg (by omega),Nat.add_sub_cancel]
        congr 1 <;> omega
      rw [e1] at h2
      have : costTo ll bend p (i + 1 + 1) = costTo ll bend p (i + 1) + pixOf ll p (i + 1) + bendAt bend p (i + 1) := rfl
      rw [this]
      unfold pixOf
      omega
  have hlast := key (p.length - 1) (by omega)
  obtain ⟨hb,_⟩ := pv (p.length - 1) (by omega)
  have hrl := (priceRow_ok (hr (pp.length - 1) (by omega))).1
  have hm := minTo_le (l := pp.getD (pp.length - 1) []) (n := (pp.getD (pp.length - 1) []).length) (i := (p.getD (p.length - 1) 0).toNat) (by omega)
  unfold boundL
  rw [show p.length - 1 + 1 = p.length by omega] at hlast
  rw [show pp.length - 1 = p.length - 1 by omega] at hm ⊢
  omega
section
variable {H : AHeap}
theorem min_c {l : List Int} {v : Value} (hl : Ints H l v) (h0 : 0 < l.length) (hb : l.length ≤ 1000000000) :
    ACall Go.Proofs.Tryz.prog 39 [v] H fun v H' => v = .int .i64 (minTo l l.length) ∧ H' = H := by
  (refine a39 ?_; simp only [n39,List.replicate,yq,yr,yt,yu]; first | refine q1 ?_ | refine q2 ?_ | refine q6 ?_ | refine q7 ?_ | refine qh rfl ?_ | skip)
  (repeat(first|refine yw ?_|((first|apply yd|apply ye);simp (disch:=first|exact zz|fail) only[go_sem,hl.len,hl.idx,hl.load,dec_f (show ¬ (l.length : Int) < 1 by omega)];with_reducible rfl)))
  refine cond_f rfl ?_
  have e1 : minTo l 1 = l.getD 0 0 := by simp only [minTo]; omega
  (repeat(first|refine yw ?_|((first|apply yd|apply ye);simp (disch:=first|exact zz|fail) only[go_sem,hl.len,hl.idx,hl.load,show (0 : Int).toNat = 0 from rfl];with_reducible rfl)))
  refine awp_loop_n [true,false,false,true,true,false,false,false,false,false,false,false,false,false,false,false,false,false,false,false,false,false,false,false,false] (l.length - 1) (fun i e H' => H' = H ∧ e = [v,junk,junk,.int .i64 (minTo l (i + 1)),.int .i64 ((i + 1 : Nat) : Int),junk,junk,junk,junk,junk,junk,junk,junk,junk,junk,junk,junk,junk,junk,junk,junk,junk,junk,junk,junk]) ?_ ?_
  · exact ⟨rfl,by simp [forget,e1]⟩
  rintro i e H1 hi ⟨rfl,rfl⟩
  (repeat(first|refine yw ?_|((first|apply yd|apply ye);simp (disch:=first|exact zz|fail) only[go_sem,hl.len,hl.idx,hl.load];with_reducible rfl)))
  refine cond_p rfl (fun hlt => ?_) (fun hge => ?_)
  · (repeat(first|refine yw ?_|((first|apply yd|apply ye);simp (disch:=first|exact zz|fail) only[go_sem,hl.len,hl.idx,hl.load];with_reducible rfl)))
    exact ⟨by omega,rfl,by simp [forget,minTo]⟩
  · (refine yg ?_)
    exact fin_1 ⟨by rw [show l.length = i + 1 by omega]; rfl,rfl⟩
theorem price1_c : Asks (.func (.func 47) #[] #[]) (fun n => !sizedB 1000000 n) := fun n H => by
  show ACall _ _ _ _ _
  (refine a47 ?_; simp only [n47,List.replicate,yq,yr,yt,yu]; first | refine q1 ?_ | refine q2 ?_ | refine q6 ?_ | refine q7 ?_ | refine qh rfl ?_ | skip)
  (refine yg ?_)
  refine aops_call_to (isSized_c _ _ (by omega)) ?_
  (refine yg ?_)
  exact fin_1 ⟨rfl,rfl⟩
end
end Go.Lq

namespace Go.Lq
open Go
open Go.Proofs
def ixD (x : Int) : List Int → Int → Int
  | [],_ => -1
  | a :: t,n => if x = a then n else ixD x t (n + 1)
theorem ixD_at {x : Int} : ∀ {l : List Int} {i : Nat} (n : Int),i < l.length → l.getD i 0 = x → ∃ j : Nat,ixD x l n = n + j ∧ j < l.length ∧ l.getD j 0 = x
  | a :: l,i,n,hi,hx => by
    unfold ixD
    by_cases h : x = a
    · exact ⟨0,by rw [if_pos h]; simp,by simp,by simpa using h.symm⟩
    · rw [if_neg h]
      cases i with
      | zero => exact absurd hx.symm (by simpa using h)
      | succ i =>
        obtain ⟨j,h1,h2,h3⟩ := ixD_at (l := l) (i := i) (n + 1) (by simpa using hi) (by simpa using hx)
        exact ⟨j + 1,by rw [h1]; push_cast; omega,by simpa using h2,by simpa using h3⟩
theorem minTo_at {l : List Int} : ∀ {n : Nat},0 < n → ∃ i,i < n ∧ l.getD i 0 = minTo l n
  | 1,_ => ⟨0,by omega,by simp only [minTo]; omega⟩
  | n + 2,_ => by
    obtain ⟨i,hi,he⟩ := minTo_at (l := l) (n := n + 1) (by omega)
    have e : minTo l (n + 2) = min (minTo l (n + 1)) (l.getD (n + 1) 0) := rfl
    by_cases h : minTo l (n + 1) ≤ l.getD (n + 1) 0
    · exact ⟨i,by omega,by omega⟩
    · exact ⟨n + 1,by omega,by omega⟩
theorem restK_true {ll : List (List Int)} {bend : Int} (hv : ∀ i,i < ll.length → ∀ n ∈ ll.getD i [],0 ≤ n ∧ n ≤ 255) {c : Nat} (hc : c < (ll.getD 0 []).length) : ∀ k,restK ll bend (fun _ => true) k c ≤ 255 * (k + 1)
  | 0 => by
    have := val_bound hv (ll.length - 1) c
    show vAt ll (ll.length - 1) c ≤ _
    unfold vAt; omega
  | k + 1 => by
    have h := (minGo_spec (fun d => vAt ll (ll.length - 2 - k) c + bendI bend (c : Int) (d : Int) + restK ll bend (fun _ => true) k d) (nbL (ll.getD 0 []).length c) 1000000).2.1 c ((nbL_mem hc).2 ⟨hc,by omega,by omega⟩)
    have e : restK ll bend (fun _ => true) (k + 1) c = minGo (fun d => vAt ll (ll.length - 2 - k) c + bendI bend (c : Int) (d : Int) + restK ll bend (fun _ => true) k d) 1000000 (nbL (ll.getD 0 []).length c) := rfl
    rw [← e] at h
    have hb : bendI bend (c : Int) (c : Int) = 0 := by unfold bendI; rw [if_pos rfl]
    have := val_bound hv (ll.length - 2 - k) c
    have ih := restK_true (bend := bend) hv hc k
    simp only [hb,vAt] at h
    push_cast
    omega
section
variable {H : AHeap}
theorem indexI_c {l : List Int} {v : Value} {x : Int} (hl : Ints H l v) (hb : l.length ≤ 1000000000) :
    ACall Go.Proofs.Tryz.prog 41 [v,.int .i64 x] H fun v1 H' => v1 = .int .i64 (ixD x l 0) ∧ H' = H := by
  (refine a41 ?_; simp only [n41,List.replicate,yq,yr,yt,yu]; first | refine q1 ?_ | refine q2 ?_ | refine q6 ?_ | refine q7 ?_ | refine qh rfl ?_ | skip)
  (repeat(first|refine yw ?_|((first|apply yd|apply ye);simp (disch:=first|exact zz|fail) only[go_sem,hl.len,hl.idx,hl.load];with_reducible rfl)))
  refine awp_loop_n [true,true,false,false,true,false,true,true,true,false,false,false,false,false,false,false,false,false,false] l.length (fun i e H' => H' = H ∧ e = [v,.int .i64 x,junk,junk,.int .i64 0,junk,v,.int .i64 l.length,.int .i64 i,junk,junk,junk,junk,junk,junk,junk,junk,junk,junk] ∧ ixD x (l.drop i) i = ixD x l 0) ?_ ?_
  · exact ⟨rfl,rfl,rfl⟩
  rintro i e H' hi ⟨rfl,rfl,hp⟩
  (refine yg ?_)
  refine cond_p rfl (fun hlt => ?_) (fun hge => ?_)
  · have hi' : i < l.length := by omega
    rw [drop_getD (d := 0) hi',show ∀ a t (n : Int),ixD x (a :: t) n = if x = a then n else ixD x t (n + 1) from fun _ _ _ => rfl] at hp
    (repeat(first|refine yw ?_|((first|apply yd|apply ye);simp (disch:=first|exact zz|fail) only[go_sem,hl.len,hl.idx,hl.load];with_reducible rfl)))
    refine cond_p rfl (fun he => ?_) (fun he => ?_)
    · rw [if_pos he] at hp
      (refine yg ?_)
      exact fin_1 ⟨by rw [← hp]; rfl,rfl⟩
    · rw [if_neg he] at hp
      (refine yg ?_)
      exact ⟨by omega,rfl,by simp [forget],by push_cast; exact hp⟩
  · obtain rfl : i = l.length := by omega
    rw [drop_end (Nat.le_refl _)] at hp
    (refine yg ?_)
    exact fin_1 ⟨by rw [← hp]; rfl,rfl⟩
theorem best1_c : AsksAt H (.func (.func 38) #[] #[]) (fun _ => true) := fun n => by
  show ACall _ _ _ _ _
  simp only [List.append_nil,List.nil_append]
  (refine a38 ?_; simp only [n38,List.replicate,yq,yr,yt,yu]; first | refine q1 ?_ | refine q2 ?_ | refine q6 ?_ | refine q7 ?_ | refine qh rfl ?_ | skip)
  (refine yg ?_)
  exact fin_1 ⟨rfl,rfl⟩
end
end Go.Lq

namespace Go.Lq
open Go
open Go.Proofs
def bestCost (ll : List (List Int)) (bend : Int) : Int := minTo (restRow ll bend (fun _ => true) (ll.length - 1)) (ll.getD 0 []).length
def bestP (ll : List (List Int)) (bend : Int) : List Int × Int × Int :=
  if taskErrL ll bend = 0 then (followL ll bend (fun _ => true) (ll.length - 1) (ixD (bestCost ll bend) (restRow ll bend (fun _ => true) (ll.length - 1)) 0).toNat,bestCost ll bend,0)
  else ([],0,taskErrL ll bend)
theorem store_newT {H : AHeap} {v x y : Value} {b : Int} (hv : isAtom v = true) : storeR 2 (.pointer (some ⟨H.length,0,none⟩)) (.agg ⟨[v,.int .i64 b]⟩) (H ++ [.cells true 0 [x,y]]) = some (undef,H ++ [.cells true 0 [v,.int .i64 b]]) := by
  rw [store_at2v (at_new : (H ++ [AObj.cells true 0 [x,y]])[H.length]? = _) hv (isAtom_int .i64 b)]
  simp
theorem best_at {ll : List (List Int)} {bend : Int} (hg : gridErrL 40 12 ll = 0) : ∃ c : Nat,ixD (bestCost ll bend) (restRow ll bend (fun _ => true) (ll.length - 1)) 0 = (c : Int) ∧ c < (ll.getD 0 []).length ∧
    restK ll bend (fun _ => true) (ll.length - 1) c = bestCost ll bend ∧ restK ll bend (fun _ => true) (ll.length - 1) c < 1000000 := by
  obtain ⟨w1,w2,w3,w4,w5,w6⟩ := gridErr_ok hg
  obtain ⟨i,hi,he⟩ := minTo_at (l := restRow ll bend (fun _ => true) (ll.length - 1)) w2
  obtain ⟨j,h1,h2,h3⟩ := ixD_at (x := bestCost ll bend) (l := restRow ll bend (fun _ => true) (ll.length - 1)) (i := i) 0 (by rw [restRow_len]; exact hi) he
  rw [restRow_len] at h2
  rw [restRow_getD h2] at h3
  have := restK_true (bend := bend) w6 h2 (ll.length - 1)
  exact ⟨j,by rw [h1]; omega,h2,h3,by omega⟩
section
variable {H : AHeap}
theorem bestPath_c {ll : List (List Int)} {vs : List Value} {v : Value} {bend : Int} (hx0 : Big H) (hL : Lists H ll vs v) (hb : ll.length ≤ 1000000000) (hr : ∀ i,i < ll.length → (ll.getD i []).length ≤ 1000000000) :
    ACall Go.Proofs.Tryz.prog 10 [.agg ⟨[v,.int .i64 bend]⟩] H fun v1 H' => v1 = .tuple #[retV H (bestP ll bend).1.length,.int .i64 (bestP ll bend).2.1,.int .i64 (bestP ll bend).2.2] ∧
      H' = H ++ retN 1 (bestP ll bend).1.length ((bestP ll bend).1.map (.int .i64)) := by
  refine ACall.tidy (f := fun s => .tuple #[s,.int .i64 (bestP ll bend).2.1,.int .i64 (bestP ll bend).2.2]) (wraps_2 (.int _ _) (.int _ _)) (closed_ints _) ?_
  (refine a10 ?_; simp only [n10,List.replicate,yq,yr,yt,yu]; first | refine q1 ?_ | refine q2 ?_ | refine q6 ?_ | refine q7 ?_ | refine qh rfl ?_ | skip)
  (repeat(first|refine yw ?_|((first|apply yd|apply ye);simp (disch:=first|exact zz|fail) only[go_sem,hL.box2];with_reducible rfl)))
  refine aops_call ((open_c (bend := bend) (hL.ext ((Ext.refl H).app [AObj.cells true 0 [v,.int .i64 bend]])) hb hr).mono fun v1 H1 ⟨e1,x11⟩ => ?_)
  subst e1
  have xH : Ext H H1 := ((Ext.refl H).app _).trans x11
  (repeat(first|refine yw ?_|((first|apply yd|apply ye);simp (disch:=first|exact zz|fail) only[go_sem,store_newT hL.atom];with_reducible rfl)))
  have x2 : Ext H (H1 ++ [AObj.cells true 0 [v,.int .i64 bend]]) := xH.app _
  refine cond_p rfl (fun hne => ?_) (fun he => ?_)
  · (refine yg ?_)
    have eb : bestP ll bend = ([],0,taskErrL ll bend) := by unfold bestP; rw [if_neg hne]
    rw [eb]
    exact fin_3 ⟨_,rfl,x2,Own.nil _ _ _⟩
  have hte : taskErrL ll bend = 0 ∧ gridErrL 40 12 ll = 0 ∧ 0 ≤ bend ∧ bend ≤ 1000 := by
    have h0 : taskErrL ll bend = 0 := Decidable.not_not.1 he
    refine ⟨h0,?_⟩
    unfold taskErrL at h0
    split at h0
    · rename_i h1
      split at h0
      · rename_i h2; exact ⟨h1,h2⟩
      · exact absurd h0 (by decide)
    · rename_i h1; exact absurd h0 h1
  obtain ⟨hte,hg,hbb⟩ := hte
  obtain ⟨w1,w2,w3,w4,w5,w6⟩ := gridErr_ok hg
  have g2 : (H1 ++ [AObj.cells true 0 [v,.int .i64 bend]])[H1.length]? = some (.cells true 0 [v,.int .i64 bend]) := at_new
  generalize (H1 ++ [AObj.cells true 0 [v,.int .i64 bend]] : AHeap) = H2 at x2 g2
  (repeat(first|refine yw ?_|((first|apply yd|apply ye);simp (disch:=first|exact zz|fail) only[go_sem,loadN_at g2];with_reducible rfl)))
  refine aops_call ((rest_c (p := fun _ => true) (hx0.trans x2) (hL.ext x2) hg hbb fun H' _ => best1_c).mono fun v1 H3 ⟨e1,e2⟩ => ?_)
  subst e1
  have hol := OwnL.ret (H0 := H2) (H := H2) (ll := restTab ll bend fun c : Nat => (fun _ : Int => true) c) (Nat.le_refl _)
  rw [← e2] at hol
  have x3 : Ext H2 H3 := ⟨_,e2⟩
  generalize retLV H2 (restTab ll bend fun c : Nat => (fun _ : Int => true) c) = tv at hol
  obtain ⟨rs,hT⟩ := hol.lists
  have hTl : (restTab ll bend fun _ => true).length = ll.length := by simp [restTab]
  have hR0 := hT.row (k := 0) (by rw [hTl]; exact w1)
  have hT0 : (restTab ll bend fun _ => true).getD 0 [] = restRow ll bend (fun _ => true) (ll.length - 1) := by
    rw [← partT_zero,partT_getD w1 (Nat.zero_le _),Nat.sub_zero]
  rw [hT0] at hR0
  have hrl := restRow_len (ll := ll) (bend := bend) (isL := fun _ => true) (ll.length - 1)
  obtain ⟨c,hix,hcw,hcc,hlt⟩ := best_at (bend := bend) hg
  have eb : bestP ll bend = (followL ll bend (fun _ => true) (ll.length - 1) c,bestCost ll bend,0) := by
    unfold bestP
    rw [if_pos hte,hix]; rfl
  rw [eb]
  have g3 := x3.cell g2
  have emin : minTo (restRow ll bend (fun _ => true) (ll.length - 1)) (restRow ll bend (fun _ => true) (ll.length - 1)).length = bestCost ll bend := by rw [hrl]; rfl
  clear e2
  have hmc := min_c hR0 (by omega) (by omega)
  rw [emin] at hmc
  (repeat(first|refine yw ?_|((first|apply yd|apply ye);simp (disch:=first|exact zz|fail) only[go_sem,hT.len,hT.idx,hT.load,show (0 : Int).toNat = 0 from rfl];with_reducible rfl)))
  refine aops_call_to hmc ?_
  (repeat(first|refine yw ?_|((first|apply yd|apply ye);simp (disch:=first|exact zz|fail) only[go_sem,hT.len,hT.idx,hT.load,show (0 : Int).toNat = 0 from rfl,loadN_at g3];with_reducible rfl)))
  have hic := indexI_c (x := bestCost ll bend) hR0 (by omega)
  rw [hix] at hic
  refine adraw_call (N := []) (firstD hic) ?_
  rw [List.append_nil]
  (refine yg ?_)
  refine adraw_call (follow_c (c0 := c) (hL.ext (x2.trans x3)) hT hg hbb hcw hlt) ?_
  (refine yg ?_)
  exact fin_3 ⟨_,rfl,(x2.trans x3).app _,OwnI.ret_own (by have := (x2.trans x3).len; omega)⟩
end
end Go.Lq


namespace Go.Lq
open Go
open Go.Proofs
def refBestGo (ll : List (List Int)) (bend : Int) : Nat → List Int × Int
  | 0 => ([],-1)
  | c + 1 => if (refBestGo ll bend c).2 < 0 ∨ (refK ll bend (fun _ => true) (ll.length - 1) c).2 < (refBestGo ll bend c).2 then refK ll bend (fun _ => true) (ll.length - 1) c else refBestGo ll bend c
theorem ixD_first {x : Int} : ∀ {l : List Int} {j : Nat} (n : Int),j < l.length → l.getD j 0 = x → (∀ i < j,l.getD i 0 ≠ x) → ixD x l n = n + j
  | a :: l,j,n,hj,hx,hf => by
    unfold ixD
    cases j with
    | zero => rw [if_pos (by simpa using hx.symm)]; simp
    | succ j =>
      rw [if_neg (fun h => hf 0 (by omega) (by simpa using h.symm)),ixD_first (l := l) (j := j) (n + 1) (by simpa using hj) (by simpa using hx) (fun i hi => by simpa using hf (i + 1) (by omega))]
      push_cast; omega
section
variable {ll : List (List Int)} {bend p : Int}
theorem refBestGo_eq (hg : gridErrL 40 12 ll = 0) (hb : 0 ≤ bend ∧ bend ≤ 1000) : ∀ c, c < (ll.getD 0 []).length → ∃ j, j ≤ c ∧ refBestGo ll bend (c + 1) = (followL ll bend (fun _ => true) (ll.length - 1) j, restK ll bend (fun _ => true) (ll.length - 1) j) ∧
      restK ll bend (fun _ => true) (ll.length - 1) j = minTo (restRow ll bend (fun _ => true) (ll.length - 1)) (c + 1) ∧ ∀ i < j,restK ll bend (fun _ => true) (ll.length - 1) i ≠ minTo (restRow ll bend (fun _ => true) (ll.length - 1)) (c + 1) := by
  obtain ⟨w1,w2,w3,w4,w5,w6⟩ := gridErr_ok hg
  have hk : ∀ c,c < (ll.getD 0 []).length → refK ll bend (fun _ => true) (ll.length - 1) c = (followL ll bend (fun _ => true) (ll.length - 1) c,restK ll bend (fun _ => true) (ll.length - 1) c) := fun c hc => by
    have := restK_true (bend := bend) w6 hc (ll.length - 1)
    rw [refK_eq w6 hb _ _ (by omega),if_pos (by omega)]
  intro c
  induction c with
  | zero =>
    intro hc
    refine ⟨0,Nat.le_refl _,?_,?_,fun i hi => by omega⟩
    · show (if _ then _ else _) = _
      rw [if_pos (.inl (by show (-1 : Int) < 0; decide)),hk 0 hc]
    · simp only [minTo]
      rw [restRow_getD hc]; omega
  | succ c ih =>
    intro hc
    obtain ⟨j,hj,h1,h2,h3⟩ := ih (by omega)
    have em : minTo (restRow ll bend (fun _ => true) (ll.length - 1)) (c + 2) = min (minTo (restRow ll bend (fun _ => true) (ll.length - 1)) (c + 1)) (restK ll bend (fun _ => true) (ll.length - 1) (c + 1)) := by
      rw [← restRow_getD (bend := bend) (isL := fun _ => true) (k := ll.length - 1) hc]; rfl
    have hj0 := (restK_bound (isL := fun _ => true) w6 hb (ll.length - 1) j).1
    have e : refBestGo ll bend (c + 1 + 1) = if (refBestGo ll bend (c + 1)).2 < 0 ∨ (refK ll bend (fun _ => true) (ll.length - 1) (c + 1)).2 < (refBestGo ll bend (c + 1)).2 then refK ll bend (fun _ => true) (ll.length - 1) (c + 1) else refBestGo ll bend (c + 1) := rfl
    rw [hk (c + 1) hc,h1] at e
    by_cases hlt : restK ll bend (fun _ => true) (ll.length - 1) (c + 1) < restK ll bend (fun _ => true) (ll.length - 1) j
    · rw [if_pos (.inr hlt)] at e
      refine ⟨c + 1,Nat.le_refl _,e,by rw [em]; omega,fun i hi => ?_⟩
      have hle : minTo (restRow ll bend (fun _ => true) (ll.length - 1)) (c + 1) ≤ (restRow ll bend (fun _ => true) (ll.length - 1)).getD i 0 := minTo_le hi
      rw [restRow_getD (by omega)] at hle
      rw [em]; omega
    · rw [if_neg (fun hh => by rcases hh with hh | hh <;> omega)] at e
      exact ⟨j,by omega,e,by rw [em]; omega,fun i hi => by have := h3 i hi; rw [em]; omega⟩
end
end Go.Lq

namespace Go.Lq
open Go
open Go.Proofs
def chainL (w : Nat) : List Int → Prop
  | [] => False
  | [a] => 0 ≤ a ∧ a < w
  | a :: b :: t => (0 ≤ a ∧ a < w) ∧ (-1 ≤ b - a ∧ b - a ≤ 1) ∧ chainL w (b :: t)
def costF (ll : List (List Int)) (bend : Int) : Nat → List Int → Int
  | _,[] => 0
  | r,[a] => vAt ll r a.toNat
  | r,a :: b :: t => vAt ll r a.toNat + bendI bend a b + costF ll bend (r + 1) (b :: t)
def beforeL : List Int → List Int → Bool
  | a :: s,b :: t => if a = b then beforeL s t else decide (a < b)
  | [],_ :: _ => true
  | _,[] => false
theorem chain_of {w : Nat} {p : List Int} (h : ∀ i,i < p.length → (0 ≤ p.getD i 0 ∧ p.getD i 0 ≤ (w : Int) - 1) ∧ (i = 0 ∨ (-1 ≤ p.getD i 0 - p.getD (i - 1) 0 ∧ p.getD i 0 - p.getD (i - 1) 0 ≤ 1))) :
    ∀ n i,i + n + 1 = p.length → chainL w (p.drop i)
  | 0,i,hi => by
    rw [drop_getD (d := 0) (show i < p.length by omega),drop_end (show p.length ≤ i + 1 by omega)]
    have := (h i (by omega)).1
    exact ⟨by omega,by omega⟩
  | n + 1,i,hi => by
    have ih := chain_of h n (i + 1) (by omega)
    rw [drop_getD (d := 0) (show i < p.length by omega)]
    rw [drop_getD (d := 0) (show i + 1 < p.length by omega)] at ih ⊢
    have h0 := (h i (by omega)).1
    have h1 := (h (i + 1) (by omega)).2
    rw [Nat.add_sub_cancel] at h1
    exact ⟨⟨by omega,by omega⟩,by omega,ih⟩
theorem chain_ok {w : Nat} : ∀ {p : List Int},chainL w p → ∀ i,i < p.length → (0 ≤ p.getD i 0 ∧ p.getD i 0 ≤ (w : Int) - 1) ∧ (i = 0 ∨ (-1 ≤ p.getD i 0 - p.getD (i - 1) 0 ∧ p.getD i 0 - p.getD (i - 1) 0 ≤ 1))
  | [],h,_,_ => h.elim
  | [a],h,i,hi => by
    have : i = 0 := by simpa using hi
    subst this
    exact ⟨⟨h.1,by have := h.2; show a ≤ _; omega⟩,.inl rfl⟩
  | a :: b :: t,h,0,_ => ⟨⟨h.1.1,by have := h.1.2; show a ≤ _; omega⟩,.inl rfl⟩
  | a :: b :: t,h,i + 1,hi => by
    have ih := chain_ok h.2.2 i (by simpa using hi)
    simp only [List.getD_cons_succ,Nat.add_sub_cancel]
    refine ⟨ih.1,.inr ?_⟩
    cases i with
    | zero => exact h.2.1
    | succ i =>
      have := ih.2
      simp only [Nat.add_sub_cancel,List.getD_cons_succ] at this ⊢
      omega
theorem pathGo_zero {w : Int} {p : List Int} : ∀ {n i : Nat},(∀ j,i ≤ j → j < i + n → pathBad w p j = 0) → pathGo w p n i = 0
  | 0,_,_ => rfl
  | n + 1,i,h => by
    unfold pathGo
    rw [if_pos (h i (Nat.le_refl _) (by omega))]
    exact pathGo_zero fun j h1 h2 => h j (by omega) (by omega)
theorem pathErr_of {ll : List (List Int)} {p : List Int} (hl : p.length = ll.length) (h : chainL (ll.getD 0 []).length p) : pathErrL ll p = 0 := by
  unfold pathErrL
  rw [if_pos hl]
  refine pathGo_zero fun j _ hj => ?_
  obtain ⟨h1,h2⟩ := chain_ok h j (by omega)
  unfold pathBad
  rw [if_pos h1,if_pos h2]
theorem chain_path {ll : List (List Int)} {p : List Int} (h0 : 0 < ll.length) (h : pathErrL ll p = 0) : p.length = ll.length ∧ chainL (ll.getD 0 []).length p := by
  obtain ⟨h1,h2⟩ := pathErr_ok h
  exact ⟨h1,by have := chain_of h2 (p.length - 1) 0 (by omega); rwa [List.drop_zero] at this⟩
section
variable {ll : List (List Int)} {bend : Int} {isL : Nat → Bool}
theorem costF_drop (p : List Int) : ∀ n i,i + n + 1 = p.length → costTo ll bend p i + bendAt bend p i + costF ll bend i (p.drop i) = costTo ll bend p p.length
  | 0,i,hi => by
    rw [drop_getD (d := 0) (show i < p.length by omega),drop_end (show p.length ≤ i + 1 by omega),← hi]
    simp only [Nat.add_zero,costTo,costF,pixOf,vAt]
    omega
  | n + 1,i,hi => by
    have ih := costF_drop p n (i + 1) (by omega)
    rw [drop_getD (d := 0) (show i < p.length by omega)]
    rw [drop_getD (d := 0) (show i + 1 < p.length by omega)] at ih ⊢
    have e1 : bendAt bend p (i + 1) = bendI bend (p.getD i 0) (p.getD (i + 1) 0) := by unfold bendAt; rw [if_neg (by omega),Nat.add_sub_cancel]
    rw [e1] at ih
    simp only [costTo,costF,pixOf,vAt] at ih ⊢
    omega
theorem costTo_eq {p : List Int} (h0 : 0 < p.length) : costTo ll bend p p.length = costF ll bend 0 p := by
  have := costF_drop (ll := ll) (bend := bend) p (p.length - 1) 0 (by omega)
  rw [List.drop_zero] at this
  rw [← this]
  simp [costTo,bendAt]
theorem rest_le : ∀ k (q : List Int),chainL (ll.getD 0 []).length q → q.length = k + 1 → k < ll.length → isL (q.getD k 0).toNat = true → restK ll bend isL k (q.getD 0 0).toNat ≤ costF ll bend (ll.length - 1 - k) q
  | 0,[a],h,_,_,hl => by
    have hl : isL a.toNat = true := hl
    unfold restK
    simp only [List.getD_cons_zero]
    rw [if_pos hl]
    exact Int.le_refl _
  | k + 1,[a],_,hl,_,_ => by simp at hl
  | 0,a :: b :: t,_,hl,_,_ => by simp at hl
  | k,[],h,_,_,_ => h.elim
  | k + 1,a :: b :: t,h,hl,hk,hL => by
    have ih := rest_le k (b :: t) h.2.2 (by simpa using hl) (by omega) (by simpa using hL)
    obtain ⟨⟨h1,h2⟩,h3,h4⟩ := h
    have hb := (chain_ok h4 0 (by simp)).1
    simp only [List.getD_cons_zero] at ih hb ⊢
    have hm : b.toNat ∈ nbL (ll.getD 0 []).length a.toNat := (nbL_mem (by omega)).2 ⟨by omega,by omega,by omega⟩
    have := (minGo_spec (fun d => vAt ll (ll.length - 2 - k) a.toNat + bendI bend (a.toNat : Int) (d : Int) + restK ll bend isL k d) (nbL (ll.getD 0 []).length a.toNat) 1000000).2.1 _ hm
    rw [Int.toNat_of_nonneg h1,Int.toNat_of_nonneg hb.1] at this
    have e : costF ll bend (ll.length - 1 - (k + 1)) (a :: b :: t) = vAt ll (ll.length - 2 - k) a.toNat + bendI bend a b + costF ll bend (ll.length - 1 - k) (b :: t) := by
      rw [costF,show ll.length - 1 - (k + 1) + 1 = ll.length - 1 - k by omega,show ll.length - 1 - (k + 1) = ll.length - 2 - k by omega]
    rw [e]
    have e2 : restK ll bend isL (k + 1) a.toNat = minGo (fun d => vAt ll (ll.length - 2 - k) a.toNat + bendI bend (a.toNat : Int) (d : Int) + restK ll bend isL k d) 1000000 (nbL (ll.getD 0 []).length a.toNat) := rfl
    rw [e2,Int.toNat_of_nonneg h1]
    omega
theorem follow_ok (hv : ∀ i,i < ll.length → ∀ n ∈ ll.getD i [],0 ≤ n ∧ n ≤ 255) (hb : 0 ≤ bend ∧ bend ≤ 1000) : ∀ k c,c < (ll.getD 0 []).length → k < ll.length → restK ll bend isL k c < 1000000 →
    chainL (ll.getD 0 []).length (followL ll bend isL k c) ∧ isL ((followL ll bend isL k c).getD k 0).toNat = true ∧ costF ll bend (ll.length - 1 - k) (followL ll bend isL k c) = restK ll bend isL k c
  | 0,c,hc,_,hr => by
    unfold restK at hr
    by_cases hl : isL c = true
    · refine ⟨⟨by omega,by omega⟩,by simpa [followL] using hl,?_⟩
      unfold restK
      rw [if_pos hl]
      simp [followL,costF]
    · rw [if_neg hl] at hr; omega
  | k + 1,c,hc,hk,hr => by
    obtain ⟨d,_,hn,hm,he⟩ := nextK_some hr
    have hdn := (nbL_mem hc).1 hm
    have hvb := val_bound hv (ll.length - 2 - k) c
    have bb := bendI_bound (a := (c : Int)) (b := (d : Int)) hb
    simp only [vAt] at he
    obtain ⟨i1,i2,i3⟩ := follow_ok hv hb k d hdn.1 (by omega) (by omega)
    have ef : followL ll bend isL (k + 1) c = (c : Int) :: followL ll bend isL k d := by rw [followL,hn]
    rw [ef]
    have ec := followL_cons (ll := ll) (bend := bend) (isL := isL) k d
    refine ⟨?_,by simpa using i2,?_⟩
    · rw [ec] at i1 ⊢
      exact ⟨⟨by omega,by omega⟩,by omega,i1⟩
    · rw [ec] at i3 ⊢
      rw [costF,show ll.length - 1 - (k + 1) + 1 = ll.length - 1 - k by omega,i3,← he,show ll.length - 1 - (k + 1) = ll.length - 2 - k by omega]
      simp only [vAt,Int.toNat_natCast]
theorem find_le {p : Nat → Bool} : ∀ {l : List Nat} {d b : Nat},l.Pairwise (· < ·) → l.find? p = some d → b ∈ l → p b = true → d ≤ b
  | [],_,_,_,h,_,_ => by simp at h
  | x :: l,d,b,hp,h,hb,hpb => by
    rw [List.pairwise_cons] at hp
    by_cases hx : p x = true
    · rw [List.find?_cons_of_pos hx] at h
      obtain rfl := Option.some.inj h
      rcases List.mem_cons.1 hb with rfl | hb
      · exact Nat.le_refl _
      · exact Nat.le_of_lt (hp.1 _ hb)
    · rw [List.find?_cons_of_neg hx] at h
      rcases List.mem_cons.1 hb with rfl | hb
      · exact absurd hpb hx
      · exact find_le hp.2 h hb hpb
theorem nbL_sorted (w c : Nat) : (nbL w c).Pairwise (· < ·) := by
  unfold nbL
  rw [List.pairwise_map]
  exact List.pairwise_lt_range.imp fun h => by omega
theorem rest_lex (hv : ∀ i,i < ll.length → ∀ n ∈ ll.getD i [],0 ≤ n ∧ n ≤ 255) (hb : 0 ≤ bend ∧ bend ≤ 1000) : ∀ k (c : Nat) (q : List Int),chainL (ll.getD 0 []).length q → q.length = k + 1 → k < ll.length → isL (q.getD k 0).toNat = true →
    q.getD 0 0 = (c : Int) → costF ll bend (ll.length - 1 - k) q = restK ll bend isL k c → restK ll bend isL k c < 1000000 → beforeL q (followL ll bend isL k c) = false
  | 0,c,[a],_,_,_,_,h0,_,_ => by
    have h0 : a = (c : Int) := h0
    subst h0
    simp [followL,beforeL]
  | k + 1,c,[a],_,hl,_,_,_,_,_ => by simp at hl
  | 0,c,a :: b :: t,_,hl,_,_,_,_,_ => by simp at hl
  | k,c,[],h,_,_,_,_,_,_ => h.elim
  | k + 1,c,a :: b :: t,h,hl,hk,hL,h0,hcost,hr => by
    have h0 : a = (c : Int) := h0
    subst h0
    have hle := rest_le (ll := ll) (bend := bend) (isL := isL) k (b :: t) h.2.2 (by simpa using hl) (by omega) (by simpa using hL)
    obtain ⟨⟨h1,h2⟩,h3,h4⟩ := h
    have hbb := (chain_ok h4 0 (by simp)).1
    simp only [List.getD_cons_zero] at hle hbb
    obtain ⟨bn,rfl⟩ : ∃ bn : Nat,b = (bn : Int) := ⟨b.toNat,by omega⟩
    have hm : bn ∈ nbL (ll.getD 0 []).length c := (nbL_mem (by omega)).2 ⟨by omega,by omega,by omega⟩
    have hmin := (minGo_spec (fun d => vAt ll (ll.length - 2 - k) c + bendI bend (c : Int) (d : Int) + restK ll bend isL k d) (nbL (ll.getD 0 []).length c) 1000000).2.1 _ hm
    have e2 : restK ll bend isL (k + 1) c = minGo (fun d => vAt ll (ll.length - 2 - k) c + bendI bend (c : Int) (d : Int) + restK ll bend isL k d) 1000000 (nbL (ll.getD 0 []).length c) := rfl
    rw [← e2] at hmin
    simp only [Int.toNat_natCast] at hmin hle
    have e : costF ll bend (ll.length - 1 - (k + 1)) ((c : Int) :: (bn : Int) :: t) = vAt ll (ll.length - 2 - k) c + bendI bend c bn + costF ll bend (ll.length - 1 - k) ((bn : Int) :: t) := by
      rw [costF,show ll.length - 1 - (k + 1) + 1 = ll.length - 1 - k by omega,show ll.length - 1 - (k + 1) = ll.length - 2 - k by omega,Int.toNat_natCast]
    rw [e] at hcost
    have hvb := val_bound hv (ll.length - 2 - k) c
    have bb := bendI_bound (a := (c : Int)) (b := (bn : Int)) hb
    have hbk : costF ll bend (ll.length - 1 - k) ((bn : Int) :: t) = restK ll bend isL k bn := by omega
    have hfb : vAt ll (ll.length - 2 - k) c + bendI bend (c : Int) (bn : Int) + restK ll bend isL k bn = restK ll bend isL (k + 1) c := by omega
    obtain ⟨d,hfind,hn,_,_⟩ := nextK_some hr
    have hdb := find_le (nbL_sorted _ _) hfind hm (by simpa using hfb)
    rw [followL,hn]
    rw [beforeL,if_pos rfl]
    by_cases hd : d = bn
    · subst hd
      refine rest_lex hv hb k d ((d : Int) :: t) h4 (by simpa using hl) (by omega) (by simpa using hL) rfl hbk ?_
      simp only [vAt] at hvb hfb
      omega
    · rw [followL_cons,beforeL,if_neg (by omega)]
      exact decide_eq_false (by omega)
end
section
variable {ll : List (List Int)} {bend p : Int}
theorem best_first (hg : gridErrL 40 12 ll = 0) (hb : 0 ≤ bend ∧ bend ≤ 1000) : ∃ j,j < (ll.getD 0 []).length ∧ bestP ll bend = (followL ll bend (fun _ => true) (ll.length - 1) j,restK ll bend (fun _ => true) (ll.length - 1) j,0) ∧
    (∀ i,i < (ll.getD 0 []).length → restK ll bend (fun _ => true) (ll.length - 1) j ≤ restK ll bend (fun _ => true) (ll.length - 1) i) ∧ (∀ i < j,restK ll bend (fun _ => true) (ll.length - 1) j < restK ll bend (fun _ => true) (ll.length - 1) i) ∧ restK ll bend (fun _ => true) (ll.length - 1) j < 1000000 := by
  obtain ⟨w1,w2,w3,w4,w5,w6⟩ := gridErr_ok hg
  obtain ⟨j,hj,h1,h2,h3⟩ := refBestGo_eq hg hb ((ll.getD 0 []).length - 1) (by omega)
  rw [show (ll.getD 0 []).length - 1 + 1 = (ll.getD 0 []).length by omega] at h1 h2 h3
  have ht : taskErrL ll bend = 0 := by unfold taskErrL; rw [if_pos hg,if_pos hb]
  have hi := ixD_first (x := bestCost ll bend) (l := restRow ll bend (fun _ => true) (ll.length - 1)) (j := j) 0 (by rw [restRow_len]; omega) (by rw [restRow_getD (by omega)]; exact h2)
    (fun i hi => by rw [restRow_getD (by omega)]; exact h3 i hi)
  have hmin : ∀ i,i < (ll.getD 0 []).length → restK ll bend (fun _ => true) (ll.length - 1) j ≤ restK ll bend (fun _ => true) (ll.length - 1) i := fun i hi => by
    have := minTo_le (l := restRow ll bend (fun _ => true) (ll.length - 1)) hi
    rw [restRow_getD hi] at this
    omega
  have := restK_true (bend := bend) w6 (c := j) (by omega) (ll.length - 1)
  refine ⟨j,by omega,?_,hmin,fun i hi => ?_,by omega⟩
  · unfold bestP
    rw [if_pos ht,hi]
    simp only [Int.zero_add,Int.toNat_natCast]
    rw [h2]; rfl
  · have := hmin i (by omega)
    have := h3 i hi
    omega
theorem best_law (hg : gridErrL 40 12 ll = 0) (hb : 0 ≤ bend ∧ bend ≤ 1000) : (bestP ll bend).2.2 = 0 ∧ pathErrL ll (bestP ll bend).1 = 0 ∧ costTo ll bend (bestP ll bend).1 (bestP ll bend).1.length = (bestP ll bend).2.1 ∧
    ∀ q,pathErrL ll q = 0 → (bestP ll bend).2.1 ≤ costTo ll bend q q.length ∧ (costTo ll bend q q.length = (bestP ll bend).2.1 → beforeL q (bestP ll bend).1 = false) := by
  obtain ⟨w1,w2,w3,w4,w5,w6⟩ := gridErr_ok hg
  obtain ⟨j,hj,e,h1,h2,h3⟩ := best_first hg hb
  rw [e]
  simp only
  obtain ⟨f1,f2,f3⟩ := follow_ok w6 hb (ll.length - 1) j hj (by omega) h3
  have fl := followL_len ll bend (fun _ => true) (ll.length - 1) j
  rw [Nat.sub_self] at f3
  refine ⟨trivial,pathErr_of (by omega) f1,by rw [costTo_eq (by omega)]; exact f3,fun q hq => ?_⟩
  obtain ⟨ql,qc⟩ := chain_path w1 hq
  have q0 := (chain_ok qc 0 (by omega)).1
  have hle := rest_le (bend := bend) (isL := fun _ => true) (ll.length - 1) q qc (by omega) (by omega) rfl
  rw [Nat.sub_self] at hle
  have hm := h1 (q.getD 0 0).toNat (by omega)
  rw [costTo_eq (by omega)]
  refine ⟨by omega,fun he => ?_⟩
  have hjq : j ≤ (q.getD 0 0).toNat := by
    rcases Nat.lt_or_ge (q.getD 0 0).toNat j with h | h
    · have := h2 _ h; omega
    · exact h
  by_cases hej : j = (q.getD 0 0).toNat
  · exact rest_lex w6 hb (ll.length - 1) j q qc (by omega) (by omega) rfl (by omega) (by rw [Nat.sub_self]; exact he) h3
  · match q,qc with
    | a :: t,qc =>
      simp only [List.getD_cons_zero] at q0 hjq hej
      rw [followL_cons,beforeL,if_neg (by omega)]
      exact decide_eq_false (by omega)
end
end Go.Lq

namespace Go.Lq
open Go
open Go.Proofs
def pAt (r k : Nat) : Int × Int := (ringP 0 0 r).getD (r * k) (0,0)
def yAt (r k : Nat) : Nat := (6 + (pAt r k).2).toNat
def xAt (r k : Nat) : Nat := (6 + (pAt r k).1).toNat
theorem pAt_in : ∀ r < 7,∀ k < 8,(-6 ≤ (pAt r k).1 ∧ (pAt r k).1 ≤ 6) ∧ (-6 ≤ (pAt r k).2 ∧ (pAt r k).2 ≤ 6) := by decide +kernel
theorem pAt_injB : ((List.range 7).all fun r => (List.range 8).all fun k => (List.range 7).all fun s => (List.range 8).all fun j => !decide (1 ≤ r ∧ 1 ≤ s ∧ pAt r k = pAt s j) || decide (r = s ∧ k = j)) = true := by decide +kernel
theorem pAt_inj (r : Nat) (hr : r < 7) (k : Nat) (hk : k < 8) (s : Nat) (hs : s < 7) (j : Nat) (hj : j < 8) (h1 : 1 ≤ r) (h2 : 1 ≤ s) (h : pAt r k = pAt s j) : r = s ∧ k = j := by
  have := List.all_eq_true.1 (List.all_eq_true.1 (List.all_eq_true.1 (List.all_eq_true.1 pAt_injB r (List.mem_range.2 hr)) k (List.mem_range.2 hk)) s (List.mem_range.2 hs)) j (List.mem_range.2 hj)
  simp only [Bool.or_eq_true,Bool.not_eq_true',decide_eq_false_iff_not,decide_eq_true_eq] at this
  exact this.resolve_left fun hn => hn ⟨h1,h2,h⟩
theorem ring_at : ∀ r < 7,∀ k < 8,1 ≤ r → (ringP 6 6 r)[r * k]? = some (6 + (pAt r k).1,6 + (pAt r k).2) := by decide +kernel
theorem ring_here : ∀ r < 7,∀ k < 8,1 ≤ r → r * k < (ringP 0 0 r).length := by decide +kernel
theorem getD_setZ {α : Type} {l : List α} {i j : Nat} {a d : α} (hi : i < l.length) : (l.set i a).getD j d = if i = j then a else l.getD j d := by
  rw [List.getD_eq_getElem?_getD,List.getElem?_set]
  split
  · rename_i h; subst h; simp [hi]
  · rw [List.getD_eq_getElem?_getD]
theorem repl_getD {α : Type} {n i : Nat} {a d : α} (h : i < n) : (List.replicate n a).getD i d = a := by
  rw [List.getD_eq_getElem?_getD,List.getElem?_replicate,if_pos h]; rfl
section
variable (R : Nat → Nat) (L crack : Int)
def img : Nat → List (List Int)
  | 0 => List.replicate 13 (List.replicate 13 L)
  | k + 1 => if (k : Int) = crack then img k else (img k).set (yAt (R k) k) (((img k).getD (yAt (R k) k) []).set (xAt (R k) k) 0)
def hit : Nat → Nat → Nat → Bool
  | 0,_,_ => false
  | n + 1,y,x => hit n y x || (!decide ((n : Int) = crack) && decide (yAt (R n) n = y ∧ xAt (R n) n = x))
end
section
variable {R : Nat → Nat} {L crack : Int}
theorem hit_iff : ∀ (n y x : Nat),hit R crack n y x = true ↔ ∃ k,k < n ∧ (k : Int) ≠ crack ∧ yAt (R k) k = y ∧ xAt (R k) k = x
  | 0,y,x => by simp [hit]
  | n + 1,y,x => by
    simp only [hit,Bool.or_eq_true,hit_iff n y x,Bool.and_eq_true,Bool.not_eq_true',decide_eq_false_iff_not,decide_eq_true_eq]
    constructor
    · rintro (⟨k,h1,h2⟩ | ⟨h1,h2⟩)
      · exact ⟨k,by omega,h2⟩
      · exact ⟨n,by omega,h1,h2⟩
    · rintro ⟨k,h1,h2,h3⟩
      by_cases hk : k = n
      · subst hk; exact .inr ⟨h2,h3⟩
      · exact .inl ⟨k,by omega,h2,h3⟩
theorem yAt_lt {r k : Nat} (hr : r < 7) (hk : k < 8) : yAt r k < 13 ∧ xAt r k < 13 := by
  have := pAt_in r hr k hk
  unfold yAt xAt
  omega
theorem img_dims (hR : ∀ k,k < 8 → 1 ≤ R k ∧ R k ≤ 6) : ∀ n,n ≤ 8 → (img R L crack n).length = 13 ∧ ∀ y,y < 13 → ((img R L crack n).getD y []).length = 13
  | 0,_ => ⟨rfl,fun y hy => by
    show ((List.replicate 13 (List.replicate 13 L)).getD y []).length = 13
    rw [repl_getD hy]; simp⟩
  | n + 1,hn => by
    obtain ⟨h1,h2⟩ := img_dims hR n (by omega)
    have hb := hR n (by omega)
    have hy := yAt_lt (r := R n) (k := n) (by omega) (by omega)
    unfold img
    split
    · exact ⟨h1,h2⟩
    · refine ⟨by simp [h1],fun y hyl => ?_⟩
      rw [getD_setZ (by omega)]
      split
      · rw [List.length_set]; exact h2 _ hy.1
      · exact h2 y hyl
theorem img_at (hR : ∀ k,k < 8 → 1 ≤ R k ∧ R k ≤ 6) : ∀ n,n ≤ 8 → ∀ y x,y < 13 → x < 13 → ((img R L crack n).getD y []).getD x 0 = if hit R crack n y x = true then 0 else L
  | 0,_,y,x,hy,hx => by
    show ((List.replicate 13 (List.replicate 13 L)).getD y []).getD x 0 = if false = true then 0 else L
    rw [repl_getD hy,repl_getD hx,if_neg (by decide)]
  | n + 1,hn,y,x,hy,hx => by
    have ih := img_at hR n (by omega)
    obtain ⟨h1,h2⟩ := img_dims (L := L) (crack := crack) hR n (by omega)
    have hb := hR n (by omega)
    have hl := yAt_lt (r := R n) (k := n) (by omega) (by omega)
    unfold img hit
    by_cases hc : (n : Int) = crack
    · rw [if_pos hc,ih y x hy hx]
      simp [hc]
    · rw [if_neg hc,getD_setZ (by omega)]
      by_cases e1 : yAt (R n) n = y
      · rw [if_pos e1,getD_setZ (by rw [h2 _ hl.1]; omega)]
        by_cases e2 : xAt (R n) n = x
        · rw [if_pos e2]; simp [hc,e1,e2]
        · rw [if_neg e2,e1,ih y x hy hx]; simp [e2]
      · rw [if_neg e1,ih y x hy hx]; simp [e1]
def discS (R : Nat → Nat) (L crack : Int) : List (List Int) := stripL (img R L crack 8) 6 6 8 1 6
theorem disc_len : (discS R L crack).length = 8 := by simp [discS,stripL]
theorem disc_row {k : Nat} (hk : k < 8) : (discS R L crack).getD k [] = stripRow (img R L crack 8) 6 6 8 1 6 k := by
  unfold discS stripL
  rw [List.getD_eq_getElem?_getD,List.getElem?_map,List.getElem?_range hk]
  rfl
theorem disc_width {k : Nat} (hk : k < 8) : ((discS R L crack).getD k []).length = 6 := by rw [disc_row hk]; simp [stripRow]
theorem disc_at (hR : ∀ k,k < 8 → 1 ≤ R k ∧ R k ≤ 6) {k c : Nat} (hk : k < 8) (hc : c < 6) : ((discS R L crack).getD k []).getD c 0 = if (k : Int) ≠ crack ∧ R k = c + 1 then 0 else L := by
  have hr := ring_at (c + 1) (by omega) k hk (by omega)
  have hl := yAt_lt (r := c + 1) (k := k) (by omega) hk
  have hin := pAt_in (c + 1) (by omega) k hk
  have e1 : ((discS R L crack).getD k []).getD c 0 = ((img R L crack 8).getD (yAt (c + 1) k) []).getD (xAt (c + 1) k) 0 := by
    rw [disc_row hk]
    unfold stripRow
    rw [List.getD_eq_getElem?_getD,List.getElem?_map,List.getElem?_range hc]
    show pixAt (img R L crack 8) 6 6 8 k (1 + c) = _
    unfold pixAt
    have e : 8 * (1 + c) * k / 8 = (c + 1) * k := by
      rw [Nat.mul_assoc,Nat.mul_div_cancel_left _ (by decide),Nat.add_comm 1 c]
    rw [e,Nat.add_comm 1 c,List.getD_eq_getElem?_getD,List.getElem?_map,hr]
    rfl
  rw [e1,img_at hR 8 (Nat.le_refl _) _ _ hl.1 hl.2]
  have key : hit R crack 8 (yAt (c + 1) k) (xAt (c + 1) k) = true ↔ ((k : Int) ≠ crack ∧ R k = c + 1) := by
    rw [hit_iff]
    constructor
    · rintro ⟨j,h1,h2,h3,h4⟩
      have hj := hR j h1
      have hjn := pAt_in (R j) (by omega) j h1
      unfold yAt at h3
      unfold xAt at h4
      have he : pAt (R j) j = pAt (c + 1) k := Prod.ext (by omega) (by omega)
      obtain ⟨a,b⟩ := pAt_inj (R j) (by omega) j h1 (c + 1) (by omega) k hk (by omega) (by omega) he
      subst b
      exact ⟨h2,a⟩
    · rintro ⟨h1,h2⟩
      exact ⟨k,hk,h1,by rw [h2],by rw [h2]⟩
  by_cases hh : hit R crack 8 (yAt (c + 1) k) (xAt (c + 1) k) = true
  · rw [if_pos hh,if_pos (key.1 hh)]
  · rw [if_neg hh,if_neg (fun h => hh (key.2 h))]
end
end Go.Lq

namespace Go.Lq
open Go
theorem posGo_vel : ∀ (r out : List Int) (c : Int),(∀ i : Nat,-1000000 ≤ (c :: r).getD i 0 ∧ (c :: r).getD i 0 ≤ 1000000) → posGo (velGo (c :: r)) out c = (out ++ r,0)
  | [],out,c,_ => by simp [velGo,posGo]
  | a :: r,out,c,h => by
    have h0 := h 0
    have h1 := h 1
    simp at h0 h1
    have e1 : sizedB 2000000 (a - c) = true := by simp [sizedB]; omega
    have e3 : c + (a - c) = a := by omega
    have e2 : sizedB 1000000 a = true := by simp [sizedB]; omega
    simp only [velGo,posGo,e1,e3,e2,if_true]
    rw [posGo_vel r _ a fun i => by have := h (i + 1); simpa using this]
    simp
theorem velGo_len : ∀ (l : List Int),(velGo l).length = l.length - 1
  | [] => rfl
  | [a] => rfl
  | a :: b :: r => by simp [velGo,velGo_len (b :: r)]
theorem positionsL_back {l : List Int} (h : positionsErrL l = 0) (hn : l ≠ []) : positionsL (l.getD 0 0) (velGo l) = (l,0) := by
  obtain ⟨hs,hl⟩ := sized_pos h
  match l,hn with
  | c :: r,_ =>
    have h0 := hs 0
    have e1 : sizedB 1000000 c = true := by simpa [sizedB] using h0
    have e2 : (velGo (c :: r)).length < 200 := by rw [velGo_len]; simp at hl ⊢; omega
    simp only [positionsL,List.getD_cons_zero,e1,e2,if_true]
    rw [posGo_vel r _ c hs]
    simp
end Go.Lq

namespace Go.Lq
open Go
open Go.Proofs
section
variable {H : AHeap}
theorem ranges_c {a b : List (Int × Int)} {va vb : Value} (ha : Pairs H a va) (hb : Pairs H b vb) (hl : a.length ≤ 1000000000) :
    ACall Go.Proofs.Tryz.prog 18 [va,vb] H fun v H' => v = .bool (decide (a = b)) ∧ H' = H := by
  (refine a18 ?_; simp only [n18,List.replicate,yq,yr,yt,yu]; first | refine q1 ?_ | refine q2 ?_ | refine q6 ?_ | refine q7 ?_ | refine qh rfl ?_ | skip)
  (repeat(first|refine yw ?_|((first|apply yd|apply ye);simp (disch:=first|exact zz|fail) only[go_sem,ha.len,ha.idx,ha.load,hb.len,hb.idx,hb.load];with_reducible rfl)))
  refine cond_p rfl (fun hne => ?_) (fun heq => ?_)
  · (refine yg ?_)
    exact fin_1 ⟨congrArg Value.bool (dec_f (fun h => by subst h; omega)).symm,rfl⟩
  have he : a.length = b.length := by omega
  (refine yg ?_)
  refine awp_loop_n [true,true,false,false,false,true,false,false,false,false,false,false,false,false,false,false,false,false,false,false,false,false,false,false,false,false] a.length (fun i e H' => H' = H ∧ e = [va,vb,junk,junk,junk,.int .i64 i,junk,junk,junk,junk,junk,junk,junk,junk,junk,junk,junk,junk,junk,junk,junk,junk,junk,junk,junk,junk] ∧ ∀ j : Nat,j < i → a.getD j (0,0) = b.getD j (0,0)) ?_ ?_
  · exact ⟨rfl,by simp [forget],by omega⟩
  rintro i e H1 hi ⟨rfl,rfl,hbef⟩
  (repeat(first|refine yw ?_|((first|apply yd|apply ye);simp (disch:=first|exact zz|fail) only[go_sem,ha.len,ha.idx,ha.load];with_reducible rfl)))
  refine cond_p rfl (fun hlt => ?_) (fun hge => ?_)
  · have hi' : i < a.length := by omega
    by_cases hab : a.getD i (0,0) = b.getD i (0,0)
    · have e1 : decide (((a.getD i (0,0)).1,(a.getD i (0,0)).2) = ((b.getD i (0,0)).1,(b.getD i (0,0)).2)) = true := dec_t (p := a.getD i (0,0) = b.getD i (0,0)) hab
      (repeat(first|refine yw ?_|((first|apply yd|apply ye);simp (disch:=first|exact zz|fail) only[go_sem,ha.len,ha.idx,ha.load,hb.len,hb.idx,hb.load,e1,bne_self_eq_false];with_reducible rfl)))
      refine cond_f rfl ?_
      (refine yg ?_)
      refine ⟨by omega,rfl,by simp [forget],fun j hj => ?_⟩
      by_cases hji : j = i
      · subst hji; exact hab
      · exact hbef j (by omega)
    · have e1 : decide (((a.getD i (0,0)).1,(a.getD i (0,0)).2) = ((b.getD i (0,0)).1,(b.getD i (0,0)).2)) = false := dec_f (p := a.getD i (0,0) = b.getD i (0,0)) hab
      (repeat(first|refine yw ?_|((first|apply yd|apply ye);simp (disch:=first|exact zz|fail) only[go_sem,ha.len,ha.idx,ha.load,hb.len,hb.idx,hb.load,e1,show (true != false) = true from rfl];with_reducible rfl)))
      refine cond_t rfl ?_
      (refine yg ?_)
      exact fin_1 ⟨congrArg Value.bool (dec_f (fun h => hab (by rw [h]))).symm,rfl⟩
  · (refine yg ?_)
    exact fin_1 ⟨congrArg Value.bool (dec_t (ext_getD (d := (0,0)) he fun j hj => hbef j (by omega))).symm,rfl⟩
def crackErrL (ll : List (List Int)) (bend : Int) (p : List Int) (limit : Int) : Int := if openErrL ll bend p = 0 then (if 0 ≤ limit ∧ limit ≤ 255 then 0 else 2) else openErrL ll bend p
theorem cracks_c {ll : List (List Int)} {vs : List Value} {v vp : Value} {bend limit : Int} {p : List Int} (hL : Lists H ll vs v) (hp : Ints H p vp) (hb : ll.length ≤ 1000000000) (hr : ∀ i,i < ll.length → (ll.getD i []).length ≤ 1000000000) :
    ACall Go.Proofs.Tryz.prog 16 [.agg ⟨[v,.int .i64 bend]⟩,vp,.int .i64 limit] H
      (PairsRes H (if crackErrL ll bend p limit = 0 then cracksTo ll p limit p.length else []) (crackErrL ll bend p limit)) := by
  refine ACall.pairsE ?_
  (refine a16 ?_; simp only [n16,List.replicate,yq,yr,yt,yu]; first | refine q1 ?_ | refine q2 ?_ | refine q6 ?_ | refine q7 ?_ | refine qh rfl ?_ | skip)
  (repeat(first|refine yw ?_|((first|apply yd|apply ye);simp (disch:=first|exact zz|fail) only[go_sem,hL.box2];with_reducible rfl)))
  have xG : Ext H (H ++ [AObj.cells true 0 [v,.int .i64 bend]]) := (Ext.refl H).app _
  refine aops_call ((openPath_c (hL.ext xG) (hp.ext xG) hb hr).mono fun v1 H1 ⟨e1,hx1⟩ => ?_)
  subst e1
  have hst := store_at2v (at_new (H := H1) (o := true) (e := 0) (vs := [.slice none 0 0,.int .i64 0])) hL.atom (isAtom_int .i64 bend)
  (repeat(first|refine yw ?_|((first|apply yd|apply ye);simp (disch:=first|exact zz|fail) only[go_sem,hst];with_reducible rfl)))
  obtain ⟨k,hk⟩ : ∃ k,k = H1.length := ⟨_,rfl⟩
  obtain ⟨G2,hG2⟩ : ∃ G2,G2 = (H1 ++ [AObj.cells true 0 [.slice none 0 0,.int .i64 0]]).set H1.length (.cells true 0 [v,.int .i64 bend]) := ⟨_,rfl⟩
  have gk : G2[k]? = some (.cells true 0 [v,.int .i64 bend]) := by rw [hG2,hk]; exact get_set_self at_new
  have x2 : Ext H1 G2 := by rw [hG2]; exact ((Ext.refl H1).app _).set (Nat.le_refl _) _
  have xG2 := (xG.trans hx1).trans x2
  rw [← hG2,← hk]
  clear hG2
  refine aops_call_to (within_c _ _ _) ?_
  (refine yg ?_)
  refine aops_call_to (unless_c _ _) ?_
  (refine yg ?_)
  refine aops_call_to (first_c (l := [_,_]) (Ints.last (l := [_,_]) 2) (by simp)) ?_
  have he : firstErr [openErrL ll bend p,if decide (0 ≤ limit ∧ limit ≤ 255) = true then 0 else 2] = crackErrL ll bend p limit := by
    unfold firstErr crackErrL
    by_cases h1 : openErrL ll bend p = 0
    · by_cases h2 : 0 ≤ limit ∧ limit ≤ 255 <;> simp [h1,h2]
    · simp [h1]
  rw [he]
  have gk3 := at_app (N := [AObj.cells true 1 [.int .i64 (openErrL ll bend p),.int .i64 (if decide (0 ≤ limit ∧ limit ≤ 255) = true then 0 else 2)]]) gk
  have xG3 := xG2.app [AObj.cells true 1 [.int .i64 (openErrL ll bend p),.int .i64 (if decide (0 ≤ limit ∧ limit ≤ 255) = true then 0 else 2)]]
  generalize (G2 ++ [AObj.cells true 1 [.int .i64 (openErrL ll bend p),.int .i64 (if decide (0 ≤ limit ∧ limit ≤ 255) = true then 0 else 2)]] : AHeap) = G3 at gk3 xG3
  (refine yg ?_)
  refine cond_p rfl (fun hne => ?_) (fun heq => ?_)
  · rw [if_neg hne]
    (refine yg ?_)
    exact fin_2 ⟨_,rfl,xG3,OwnP.nil _ _⟩
  have hok0 : crackErrL ll bend p limit = 0 := Decidable.not_not.1 heq
  have hok : openErrL ll bend p = 0 := by
    unfold crackErrL at hok0
    split at hok0
    · assumption
    · exact hok0
  have hok1 : taskErrL ll bend = 0 := by
    unfold openErrL at hok
    split at hok
    · assumption
    · exact hok
  have hok2 : pathErrL ll p = 0 := by unfold openErrL at hok; rwa [if_pos hok1] at hok
  obtain ⟨hg,hbe⟩ := taskErr_ok hok1
  obtain ⟨w1,w2,w3,w4,w5,w6⟩ := gridErr_ok hg
  obtain ⟨pl,pv⟩ := pathErr_ok hok2
  rw [if_pos hok0]
  have hp3 := hp.ext xG3
  have hL3 := hL.ext xG3
  (repeat(first|refine yw ?_|((first|apply yd|apply ye);simp (disch:=first|exact zz|fail) only[go_sem,hp3.len,hp3.idx,hp3.load];with_reducible rfl)))
  refine awp_loop_n [false,true,true,false,false,false,false,false,true,false,true,false,false,false,false,false,false,false,false,false,false,false,false,false,false,false,false,false,false,true,true,true,false,false,false,false,false,false,false,false,false,false,false,false,false,false,false,false,false,false,false,false,false,false,false,false,false,false,false,false,false,false,false,false,false,false,false,false,false,false,false,false,false,false,false,false] p.length (fun i e H' => ∃ vo,Ext G3 H' ∧ e = [junk,vp,.int .i64 limit,junk,junk,junk,junk,junk,.pointer (some ⟨k,0,none⟩),junk,vo,junk,junk,junk,junk,junk,junk,junk,junk,junk,junk,junk,junk,junk,junk,junk,junk,junk,junk,vp,.int .i64 p.length,.int .i64 i,junk,junk,junk,junk,junk,junk,junk,junk,junk,junk,junk,junk,junk,junk,junk,junk,junk,junk,junk,junk,junk,junk,junk,junk,junk,junk,junk,junk,junk,junk,junk,junk,junk,junk,junk,junk,junk,junk,junk,junk,junk,junk,junk,junk] ∧ OwnP G3 H' (cracksTo ll p limit i) vo) ?_ ?_
  · exact ⟨_,Ext.refl _,by simp [forget],OwnP.nil _ _⟩
  rintro i e H4 hi ⟨vo,hx4,rfl,ho⟩
  (refine yg ?_)
  refine cond_p rfl (fun hlt => ?_) (fun hge => ?_)
  rotate_left 1
  · obtain rfl : i = p.length := by omega
    (refine yg ?_)
    exact fin_2 ⟨vo,by rw [hok0]; rfl,xG3.trans hx4,ho.weaken xG3.len⟩
  have hi' : i < p.length := by omega
  obtain ⟨pb,pd⟩ := pv i hi'
  have hp4 := hp3.ext hx4
  have hL4 := hL3.ext hx4
  have hrow := hL4.row (k := i) (by omega)
  have hwi := w5 i (by omega)
  have hol := cracksTo_len ll p limit i
  (repeat(first|refine yw ?_|((first|apply yd|apply ye);simp (disch:=first|exact zz|fail) only[go_sem,hp4.len,hp4.idx,hp4.load,hL4.len,hL4.idx,hL4.load,hrow.len,hrow.idx,hrow.load,load_at (hx4.cell gk3)];with_reducible rfl)))
  refine cond_p rfl (fun hdark => ?_) (fun hcr => ?_)
  · have e1 : cracksTo ll p limit (i + 1) = cracksTo ll p limit i := if_pos hdark
    (refine yg ?_)
    exact ⟨by omega,vo,hx4,by simp [forget],by rw [e1]; exact ho⟩
  have hpo := ho.pairs
  generalize hout : cracksTo ll p limit i = out at ho hpo hol
  have e1 : cracksTo ll p limit (i + 1) = if 0 < out.length ∧ (out.getD (out.length - 1) (0,0)).2 = (i : Int) - 1 then out.set (out.length - 1) ((out.getD (out.length - 1) (0,0)).1,(i : Int)) else out ++ [((i : Int),(i : Int))] := by
    rw [← hout]; exact if_neg hcr
  by_cases h0 : out.length = 0
  · rw [if_neg (by omega)] at e1
    (repeat(first|refine yw ?_|((first|apply yd|apply ye);simp (disch:=first|exact zz|fail) only[go_sem,hpo.len,hpo.idx,hpo.load,dec_f (show ¬ 0 < (out.length : Int) by omega)];with_reducible rfl)))
    refine cond_f rfl ?_
    (repeat(first|refine yw ?_|((first|apply yd|apply ye);simp (disch:=first|exact zz|fail) only[go_sem,ho.push (by omega)];with_reducible rfl)))
    refine ⟨by omega,_,ho.ext hx4 _,?_,by rw [e1]; exact ho.pushed hx4 _⟩
    simp [forget]
  have c1 : ((out.length : Int) - 1) = ((out.length - 1 : Nat) : Int) := by omega
  by_cases h1 : (out.getD (out.length - 1) (0,0)).2 = (i : Int) - 1
  · rw [if_pos ⟨by omega,h1⟩] at e1
    obtain ⟨hst5,ho5,hx5⟩ := ho.set2 hx4 (k := out.length - 1) (by omega) (i : Int)
    (repeat(first|refine yw ?_|((first|apply yd|apply ye);simp (disch:=first|exact zz|fail) only[go_sem,hpo.len,hpo.idx,hpo.load,dec_t (show 0 < (out.length : Int) by omega),c1,h1];with_reducible rfl)))
    refine cond_t rfl ?_
    (repeat(first|refine yw ?_|((first|apply yd|apply ye);simp (disch:=first|exact zz|fail) only[go_sem,hpo.len,hpo.idx,hpo.load,c1,hst5];with_reducible rfl)))
    exact ⟨by omega,vo,hx5,by simp [forget],by rw [e1]; exact ho5⟩
  · rw [if_neg (fun h => h1 h.2)] at e1
    (repeat(first|refine yw ?_|((first|apply yd|apply ye);simp (disch:=first|exact zz|fail) only[go_sem,hpo.len,hpo.idx,hpo.load,dec_t (show 0 < (out.length : Int) by omega),c1,dec_f h1];with_reducible rfl)))
    refine cond_f rfl ?_
    (repeat(first|refine yw ?_|((first|apply yd|apply ye);simp (disch:=first|exact zz|fail) only[go_sem,ho.push (by omega)];with_reducible rfl)))
    refine ⟨by omega,_,ho.ext hx4 _,?_,by rw [e1]; exact ho.pushed hx4 _⟩
    simp [forget]
end
end Go.Lq

namespace Go.Lq
open Go
def gapsGo (count : Int) : List (Int × Int) → Int → Int → Int
  | [],_,missing => if 0 < missing ∨ count = 0 then 0 else 12
  | g :: r,last,missing =>
    if (0 ≤ g.1 ∧ g.1 ≤ count - 1) ∧ (0 ≤ g.2 ∧ g.2 ≤ count - 1) then
      (if g.1 ≤ g.2 ∧ last + 1 < g.1 then gapsGo count r g.2 (missing - (g.2 - g.1 + 1)) else 9)
    else 6
def gapsL (count : Int) (l : List (Int × Int)) : Int := gapsGo count l (-2) count
theorem gapsGo_step {count last missing : Int} {l : List (Int × Int)} {i : Nat} (h : i < l.length) : gapsGo count (l.drop i) last missing =
    if (0 ≤ (l.getD i (0,0)).1 ∧ (l.getD i (0,0)).1 ≤ count - 1) ∧ (0 ≤ (l.getD i (0,0)).2 ∧ (l.getD i (0,0)).2 ≤ count - 1) then
      (if (l.getD i (0,0)).1 ≤ (l.getD i (0,0)).2 ∧ last + 1 < (l.getD i (0,0)).1 then gapsGo count (l.drop (i + 1)) (l.getD i (0,0)).2 (missing - ((l.getD i (0,0)).2 - (l.getD i (0,0)).1 + 1)) else 9)
    else 6 := by
  rw [drop_getD (d := (0,0)) h]; rfl
theorem gapsGo_end {count last missing : Int} {l : List (Int × Int)} {i : Nat} (h : l.length ≤ i) : gapsGo count (l.drop i) last missing = if 0 < missing ∨ count = 0 then 0 else 12 := by
  rw [drop_end h]; rfl
section
variable {H : AHeap}
theorem gapsErr_c {l : List (Int × Int)} {v : Value} {count : Int} (hl : Pairs H l v) (hc : 0 ≤ count ∧ count ≤ 1000000000) (hb : l.length ≤ 1000000000) :
    ACall Go.Proofs.Tryz.prog 51 [.int .i64 count,v] H fun v H' => v = .int .i64 (gapsL count l) ∧ H' = H := by
  refine ACall.drop (.int _ _) ?_
  (refine a51 ?_; simp only [n51,List.replicate,yq,yr,yt,yu]; first | refine q1 ?_ | refine q2 ?_ | refine q6 ?_ | refine q7 ?_ | refine qh rfl ?_ | skip)
  (repeat(first|refine yw ?_|((first|apply yd|apply ye);simp (disch:=first|exact zz|fail) only[go_sem,hl.len,hl.idx,hl.load];with_reducible rfl)))
  refine awp_loop_n [true,false,false,false,false,true,true,false,false,false,false,false,true,true,true,false,false,false,false,false,false,false,false,false,false,false,false,false,false,false,false,false,false,false,false,false,false,false,false,false,false,false,false,false,false,false,false,false,false,false,false,false,false,false,false,false,false,false,false,false,false,false,false,false,false,false,false,false] l.length (fun i e H1 => ∃ last missing,e = [.int .i64 count,junk,junk,junk,junk,.int .i64 last,.int .i64 missing,junk,junk,junk,junk,junk,v,.int .i64 l.length,.int .i64 i,junk,junk,junk,junk,junk,junk,junk,junk,junk,junk,junk,junk,junk,junk,junk,junk,junk,junk,junk,junk,junk,junk,junk,junk,junk,junk,junk,junk,junk,junk,junk,junk,junk,junk,junk,junk,junk,junk,junk,junk,junk,junk,junk,junk,junk,junk,junk,junk,junk,junk,junk,junk,junk] ∧ Ext H H1 ∧ (-2 ≤ last ∧ last ≤ count) ∧
      (-1000000000 * i ≤ missing ∧ missing ≤ count) ∧ gapsGo count (l.drop i) last missing = gapsL count l) ?_ ?_
  · exact ⟨-2,count,by simp [forget],Ext.refl _,by omega,by omega,rfl⟩
  · rintro i e H1 hi ⟨last,missing,rfl,hx,hla,hmi,hv⟩
    (refine yg ?_)
    refine cond_p rfl (fun hlt => ?_) (fun hge => ?_)
    · rw [gapsGo_step (by omega)] at hv
      have hi' : i < l.length := by omega
      have hx1 := fun N => hx.app N
      (repeat(first|refine yw ?_|((first|apply yd|apply ye);simp (disch:=first|exact zz|fail) only[go_sem,hl.len,hl.idx,hl.load];with_reducible rfl)))
      generalize l.getD i (0,0) = g at hv ⊢
      obtain ⟨lo,hiG⟩ := g
      dsimp only at hv ⊢
      refine aops_call_to (within_c _ _ _) ?_
      by_cases h1 : (0 ≤ lo ∧ lo ≤ count - 1)
      · by_cases h2 : (0 ≤ hiG ∧ hiG ≤ count - 1)
        · rw [if_pos ⟨h1,h2⟩] at hv
          (repeat(first|refine yw ?_|((first|apply yd|apply ye);simp (disch:=first|exact zz|fail) only[go_sem,dec_t h1];with_reducible rfl)))
          refine aops_call_to (within_c _ _ _) ?_
          (repeat(first|refine yw ?_|((first|apply yd|apply ye);simp (disch:=first|exact zz|fail) only[go_sem,dec_t h2];with_reducible rfl)))
          refine adraw_call (N := []) (firstD (unless_c _ _)) ?_
          by_cases h3 : lo ≤ hiG
          · by_cases h4 : last + 1 < lo
            · rw [if_pos ⟨h3,h4⟩] at hv
              (repeat(first|refine yw ?_|((first|apply yd|apply ye);simp (disch:=first|exact zz|fail) only[go_sem,dec_t h3,dec_t h4,List.append_nil];with_reducible rfl)))
              refine adraw_call (N := []) (firstD (unless_c _ _)) ?_
              (repeat(first|refine yw ?_|((first|apply yd|apply ye);simp (disch:=first|exact zz|fail) only[go_sem,List.append_nil];with_reducible rfl)))
              refine adraw_call (N := []) (firstD (first_c (l := [_,_]) (Ints.last (l := [_,_]) 2) (by simp))) ?_
              (repeat(first|refine yw ?_|((first|apply yd|apply ye);simp (disch:=first|exact zz|fail) only[go_sem,List.append_nil];with_reducible rfl)))
              refine cond_f rfl ?_
              have hm1 : -1000000000 * ((i + 1 : Nat) : Int) ≤ missing - (hiG - lo + 1) := by omega
              have hi2 : (i : Int) ≤ 1000000000 := by omega
              (refine yg ?_)
              refine ⟨by omega,hiG,missing - (hiG - lo + 1),?_,(hx.app _).app _,by omega,by omega,hv⟩
              simp [forget]
            · rw [if_neg (fun h => h4 h.2)] at hv
              (repeat(first|refine yw ?_|((first|apply yd|apply ye);simp (disch:=first|exact zz|fail) only[go_sem,dec_t h3,dec_f h4,List.append_nil];with_reducible rfl)))
              refine adraw_call (N := []) (firstD (unless_c _ _)) ?_
              (repeat(first|refine yw ?_|((first|apply yd|apply ye);simp (disch:=first|exact zz|fail) only[go_sem,List.append_nil];with_reducible rfl)))
              refine adraw_call (N := []) (firstD (first_c (l := [_,_]) (Ints.last (l := [_,_]) 2) (by simp))) ?_
              (repeat(first|refine yw ?_|((first|apply yd|apply ye);simp (disch:=first|exact zz|fail) only[go_sem,List.append_nil,dec_t];with_reducible rfl)))
              refine cond_t rfl ?_
              (refine yg ?_)
              rw [← hv]
              exact fin_1 ⟨rfl,(hx.app _).app _⟩
          · rw [if_neg (fun h => h3 h.1)] at hv
            (repeat(first|refine yw ?_|((first|apply yd|apply ye);simp (disch:=first|exact zz|fail) only[go_sem,dec_f h3,List.append_nil];with_reducible rfl)))
            refine adraw_call (N := []) (firstD (unless_c _ _)) ?_
            (repeat(first|refine yw ?_|((first|apply yd|apply ye);simp (disch:=first|exact zz|fail) only[go_sem,List.append_nil];with_reducible rfl)))
            refine adraw_call (N := []) (firstD (first_c (l := [_,_]) (Ints.last (l := [_,_]) 2) (by simp))) ?_
            (repeat(first|refine yw ?_|((first|apply yd|apply ye);simp (disch:=first|exact zz|fail) only[go_sem,List.append_nil,dec_t];with_reducible rfl)))
            refine cond_t rfl ?_
            (refine yg ?_)
            rw [← hv]
            exact fin_1 ⟨rfl,(hx.app _).app _⟩
        · rw [if_neg (fun h => h2 h.2)] at hv
          (repeat(first|refine yw ?_|((first|apply yd|apply ye);simp (disch:=first|exact zz|fail) only[go_sem,dec_t h1];with_reducible rfl)))
          refine aops_call_to (within_c _ _ _) ?_
          (repeat(first|refine yw ?_|((first|apply yd|apply ye);simp (disch:=first|exact zz|fail) only[go_sem,dec_f h2];with_reducible rfl)))
          refine adraw_call (N := []) (firstD (unless_c _ _)) ?_
          by_cases h3 : lo ≤ hiG
          · by_cases h4 : last + 1 < lo
            · (repeat(first|refine yw ?_|((first|apply yd|apply ye);simp (disch:=first|exact zz|fail) only[go_sem,dec_t h3,dec_t h4,List.append_nil];with_reducible rfl)))
              refine adraw_call (N := []) (firstD (unless_c _ _)) ?_
              (repeat(first|refine yw ?_|((first|apply yd|apply ye);simp (disch:=first|exact zz|fail) only[go_sem,List.append_nil];with_reducible rfl)))
              refine adraw_call (N := []) (firstD (first_c (l := [_,_]) (Ints.last (l := [_,_]) 2) (by simp))) ?_
              (repeat(first|refine yw ?_|((first|apply yd|apply ye);simp (disch:=first|exact zz|fail) only[go_sem,List.append_nil,dec_t];with_reducible rfl)))
              refine cond_t rfl ?_
              (refine yg ?_)
              rw [← hv]
              exact fin_1 ⟨rfl,(hx.app _).app _⟩
            · (repeat(first|refine yw ?_|((first|apply yd|apply ye);simp (disch:=first|exact zz|fail) only[go_sem,dec_t h3,dec_f h4,List.append_nil];with_reducible rfl)))
              refine adraw_call (N := []) (firstD (unless_c _ _)) ?_
              (repeat(first|refine yw ?_|((first|apply yd|apply ye);simp (disch:=first|exact zz|fail) only[go_sem,List.append_nil];with_reducible rfl)))
              refine adraw_call (N := []) (firstD (first_c (l := [_,_]) (Ints.last (l := [_,_]) 2) (by simp))) ?_
              (repeat(first|refine yw ?_|((first|apply yd|apply ye);simp (disch:=first|exact zz|fail) only[go_sem,List.append_nil,dec_t];with_reducible rfl)))
              refine cond_t rfl ?_
              (refine yg ?_)
              rw [← hv]
              exact fin_1 ⟨rfl,(hx.app _).app _⟩
          · (repeat(first|refine yw ?_|((first|apply yd|apply ye);simp (disch:=first|exact zz|fail) only[go_sem,dec_f h3,List.append_nil];with_reducible rfl)))
            refine adraw_call (N := []) (firstD (unless_c _ _)) ?_
            (repeat(first|refine yw ?_|((first|apply yd|apply ye);simp (disch:=first|exact zz|fail) only[go_sem,List.append_nil];with_reducible rfl)))
            refine adraw_call (N := []) (firstD (first_c (l := [_,_]) (Ints.last (l := [_,_]) 2) (by simp))) ?_
            (repeat(first|refine yw ?_|((first|apply yd|apply ye);simp (disch:=first|exact zz|fail) only[go_sem,List.append_nil,dec_t];with_reducible rfl)))
            refine cond_t rfl ?_
            (refine yg ?_)
            rw [← hv]
            exact fin_1 ⟨rfl,(hx.app _).app _⟩
      · rw [if_neg (fun h => h1 h.1)] at hv
        (repeat(first|refine yw ?_|((first|apply yd|apply ye);simp (disch:=first|exact zz|fail) only[go_sem,dec_f h1];with_reducible rfl)))
        refine adraw_call (N := []) (firstD (unless_c _ _)) ?_
        by_cases h3 : lo ≤ hiG
        · by_cases h4 : last + 1 < lo
          · (repeat(first|refine yw ?_|((first|apply yd|apply ye);simp (disch:=first|exact zz|fail) only[go_sem,dec_t h3,dec_t h4,List.append_nil];with_reducible rfl)))
            refine adraw_call (N := []) (firstD (unless_c _ _)) ?_
            (repeat(first|refine yw ?_|((first|apply yd|apply ye);simp (disch:=first|exact zz|fail) only[go_sem,List.append_nil];with_reducible rfl)))
            refine adraw_call (N := []) (firstD (first_c (l := [_,_]) (Ints.last (l := [_,_]) 2) (by simp))) ?_
            (repeat(first|refine yw ?_|((first|apply yd|apply ye);simp (disch:=first|exact zz|fail) only[go_sem,List.append_nil,dec_t];with_reducible rfl)))
            refine cond_t rfl ?_
            (refine yg ?_)
            rw [← hv]
            exact fin_1 ⟨rfl,(hx.app _).app _⟩
          · (repeat(first|refine yw ?_|((first|apply yd|apply ye);simp (disch:=first|exact zz|fail) only[go_sem,dec_t h3,dec_f h4,List.append_nil];with_reducible rfl)))
            refine adraw_call (N := []) (firstD (unless_c _ _)) ?_
            (repeat(first|refine yw ?_|((first|apply yd|apply ye);simp (disch:=first|exact zz|fail) only[go_sem,List.append_nil];with_reducible rfl)))
            refine adraw_call (N := []) (firstD (first_c (l := [_,_]) (Ints.last (l := [_,_]) 2) (by simp))) ?_
            (repeat(first|refine yw ?_|((first|apply yd|apply ye);simp (disch:=first|exact zz|fail) only[go_sem,List.append_nil,dec_t];with_reducible rfl)))
            refine cond_t rfl ?_
            (refine yg ?_)
            rw [← hv]
            exact fin_1 ⟨rfl,(hx.app _).app _⟩
        · (repeat(first|refine yw ?_|((first|apply yd|apply ye);simp (disch:=first|exact zz|fail) only[go_sem,dec_f h3,List.append_nil];with_reducible rfl)))
          refine adraw_call (N := []) (firstD (unless_c _ _)) ?_
          (repeat(first|refine yw ?_|((first|apply yd|apply ye);simp (disch:=first|exact zz|fail) only[go_sem,List.append_nil];with_reducible rfl)))
          refine adraw_call (N := []) (firstD (first_c (l := [_,_]) (Ints.last (l := [_,_]) 2) (by simp))) ?_
          (repeat(first|refine yw ?_|((first|apply yd|apply ye);simp (disch:=first|exact zz|fail) only[go_sem,List.append_nil,dec_t];with_reducible rfl)))
          refine cond_t rfl ?_
          (refine yg ?_)
          rw [← hv]
          exact fin_1 ⟨rfl,(hx.app _).app _⟩
    · rw [gapsGo_end (by omega)] at hv
      by_cases hp : 0 < missing
      · rw [if_pos (.inl hp)] at hv
        (repeat(first|refine yw ?_|((first|apply yd|apply ye);simp (disch:=first|exact zz|fail) only[go_sem,dec_t hp];with_reducible rfl)))
        refine aops_call_to (unless_c _ _) ?_
        (refine yg ?_)
        rw [← hv]
        exact fin_1 ⟨rfl,hx⟩
      · by_cases hz : count = 0
        · rw [if_pos (.inr hz)] at hv
          (repeat(first|refine yw ?_|((first|apply yd|apply ye);simp (disch:=first|exact zz|fail) only[go_sem,dec_f hp,dec_t hz];with_reducible rfl)))
          refine aops_call_to (unless_c _ _) ?_
          (refine yg ?_)
          rw [← hv]
          exact fin_1 ⟨rfl,hx⟩
        · rw [if_neg (by omega)] at hv
          (repeat(first|refine yw ?_|((first|apply yd|apply ye);simp (disch:=first|exact zz|fail) only[go_sem,dec_f hp,dec_f hz];with_reducible rfl)))
          refine aops_call_to (unless_c _ _) ?_
          (refine yg ?_)
          rw [← hv]
          exact fin_1 ⟨rfl,hx⟩
theorem floor_c (n b : Int) (hb : 0 < b ∧ b ≤ 1000000000) (hn : -4000000000000000000 ≤ n ∧ n ≤ 4000000000000000000) :
    ACall Go.Proofs.Tryz.prog 52 [.int .i64 n,.int .i64 b] H fun v H' => v = .int .i64 (n / b) ∧ H' = H := by
  (refine a52 ?_; simp only [n52,List.replicate,yq,yr,yt,yu]; first | refine q1 ?_ | refine q2 ?_ | refine q6 ?_ | refine q7 ?_ | refine qh rfl ?_ | skip)
  (refine yg ?_)
  refine cond_p rfl (fun hneg => ?_) (fun hpos => ?_)
  · have e1 : (b - 1 - n).tdiv b = (b - 1 - n) / b := Int.tdiv_eq_ediv_of_nonneg (by omega)
    have e2 : -((b - 1 - n) / b) = n / b := by
      have h1 := Int.mul_ediv_add_emod (b - 1 - n) b
      have h2 := Int.emod_nonneg (b - 1 - n) (show b ≠ 0 by omega)
      have h3 := Int.emod_lt_of_pos (b - 1 - n) hb.1
      generalize (b - 1 - n) / b = q at h1
      generalize (b - 1 - n) % b = r at h1 h2 h3
      have e : n = (b - 1 - r) + b * (-q) := by rw [Int.mul_neg]; omega
      rw [e,Int.add_mul_ediv_left _ _ (by omega : b ≠ 0),Int.ediv_eq_zero_of_lt (by omega) (by omega)]
      omega
    have h0 : 0 ≤ (b - 1 - n) / b := Int.ediv_nonneg (by omega) (by omega)
    have h1 : (b - 1 - n) / b ≤ b - 1 - n := Int.ediv_le_self _ (by omega)
    (repeat(first|refine yw ?_|((first|apply yd|apply ye);simp (disch:=first|exact zz|fail) only[go_sem,e1];with_reducible rfl)))
    refine fin_1 ⟨?_,rfl⟩
    rw [← e2]
    simp
  · have e1 : n.tdiv b = n / b := Int.tdiv_eq_ediv_of_nonneg (by omega)
    have h0 : 0 ≤ n / b := Int.ediv_nonneg (by omega) (by omega)
    have h1 : n / b ≤ n := Int.ediv_le_self _ (by omega)
    (repeat(first|refine yw ?_|((first|apply yd|apply ye);simp (disch:=first|exact zz|fail) only[go_sem,e1];with_reducible rfl)))
    exact fin_1 ⟨rfl,rfl⟩
theorem eqv_nil {H : AHeap} : (eqvA 2 (.slice none 0 0) (.slice none 0 0)).map (fun b => (Value.bool (false != b),H)) = some (.bool true,H) := rfl
theorem eqv_some {H : AHeap} {a : Addr} {n c : Nat} : (eqvA 2 (.slice (some a) n c) (.slice none 0 0)).map (fun b => (Value.bool (false != b),H)) = some (.bool false,H) := rfl
theorem r_eqv2 {ρ : Operand → Value} {H : AHeap} {x y : Operand} {neg : Bool} {k : Nat} : ropRun (.eqv k neg x y) ρ H = (eqvA k (ρ x) (ρ y)).map fun b => (.bool (neg != b),H) := rfl
theorem clone_c {l : List Int} {v : Value} (hl : Ints H l v) (hb : l.length ≤ 1000000000) :
    ACall Go.Proofs.Tryz.prog 42 [v] H fun v1 H1 => (0 < l.length → OwnI H H1 l v1) ∧ Ints H1 l v1 ∧ Ext H H1 := by
  have hl' := hl
  rcases hl.2 with ⟨rfl,h0⟩ | ⟨id,off,c,rfl,hc⟩
  · (refine a42 ?_; simp only [n42,List.replicate,yq,yr,yt,yu]; first | refine q1 ?_ | refine q2 ?_ | refine q6 ?_ | refine q7 ?_ | refine qh rfl ?_ | skip)
    (repeat(first|refine yw ?_|((first|apply yd|apply ye);simp (disch:=first|exact zz|fail) only[go_sem,r_eqv2,eqv_nil];with_reducible rfl)))
    refine cond_t rfl ?_
    (refine yg ?_)
    exact fin_1 ⟨fun h => by omega,hl',Ext.refl _⟩
  · obtain ⟨s,H',ha,hx,id',rfl,hid,ho⟩ := append_copy (bytes := 8) hl' (isAtom_ints l) (roomOk_of (by omega) (by omega))
    (refine a42 ?_; simp only [n42,List.replicate,yq,yr,yt,yu]; first | refine q1 ?_ | refine q2 ?_ | refine q6 ?_ | refine q7 ?_ | refine qh rfl ?_ | skip)
    (repeat(first|refine yw ?_|((first|apply yd|apply ye);simp (disch:=first|exact zz|fail) only[go_sem,r_eqv2,eqv_some];with_reducible rfl)))
    refine cond_f rfl ?_
    (repeat(first|refine yw ?_|((first|apply yd|apply ye);simp (disch:=first|exact zz|fail) only[go_sem,ha];with_reducible rfl)))
    exact fin_1 ⟨fun h => ⟨by simp,.inr ⟨id',rfl,hid,h,ho⟩⟩,Sl.of ho (by simp),hx⟩
end
end Go.Lq

namespace Go.Lq
open Go
theorem mul_bound {x y A B : Int} (hx : -A ≤ x ∧ x ≤ A) (hy : 0 ≤ y ∧ y ≤ B) (hA : 0 ≤ A) : -(A * B) ≤ x * y ∧ x * y ≤ A * B := by
  have h1 : x * y ≤ A * y := Int.mul_le_mul_of_nonneg_right hx.2 hy.1
  have h2 : A * y ≤ A * B := Int.mul_le_mul_of_nonneg_left hy.2 hA
  have h3 : -A * y ≤ x * y := Int.mul_le_mul_of_nonneg_right hx.1 hy.1
  have h4 : -A * y = -(A * y) := Int.neg_mul A y
  omega
theorem ediv_bounds {n b B : Int} (hb : 0 < b) (hn : -B ≤ n ∧ n ≤ B) (hB : 0 ≤ B) : -B ≤ n / b ∧ n / b ≤ B := by
  constructor
  · refine Int.le_ediv_of_mul_le hb ?_
    have : -B * b ≤ -B * 1 := Int.mul_le_mul_of_nonpos_left (by omega) (by omega)
    omega
  · by_cases h : 0 ≤ n
    · exact Int.le_trans (Int.ediv_le_self _ h) hn.2
    · have := Int.ediv_neg_of_neg_of_pos (by omega : n < 0) hb
      omega
def fillV (l : List Int) (a b n : Nat) : Int :=
  if a = 0 then l.getD (b + 1) 0 else if b + 1 = l.length then l.getD (a - 1) 0
  else l.getD (a - 1) 0 + ((l.getD (b + 1) 0 - l.getD (a - 1) 0) * ((n : Int) - ((a - 1 : Nat) : Int))) / (((b + 1 : Nat) : Int) - ((a - 1 : Nat) : Int))
def fillN (l : List Int) (a b : Nat) : Nat → Nat → List Int → List Int
  | 0,_,out => out
  | k + 1,n,out => fillN l a b k (n + 1) (out.set n (fillV l a b n))
def bridgeGo (l : List Int) : List (Int × Int) → List Int → List Int
  | [],out => out
  | g :: r,out => bridgeGo l r (fillN l g.1.toNat g.2.toNat (g.2.toNat + 1 - g.1.toNat) g.1.toNat out)
theorem bridgeGo_step {l : List Int} {gs : List (Int × Int)} {out : List Int} {i : Nat} (h : i < gs.length) : bridgeGo l (gs.drop i) out =
    bridgeGo l (gs.drop (i + 1)) (fillN l (gs.getD i (0,0)).1.toNat (gs.getD i (0,0)).2.toNat ((gs.getD i (0,0)).2.toNat + 1 - (gs.getD i (0,0)).1.toNat) (gs.getD i (0,0)).1.toNat out) := by
  rw [drop_getD (d := (0,0)) h]; rfl
theorem bridgeGo_end {l : List Int} {gs : List (Int × Int)} {out : List Int} {i : Nat} (h : gs.length ≤ i) : bridgeGo l (gs.drop i) out = out := by
  rw [drop_end h]; rfl
def GapOk (count : Nat) (g : Int × Int) : Prop := ∃ a b : Nat,g = ((a : Int),(b : Int)) ∧ a ≤ b ∧ b < count ∧ ¬ (a = 0 ∧ b + 1 = count)
theorem gapsGo_full {count m : Int} (hc : 0 < count) (hm : m ≤ 0) : ∀ (r : List (Int × Int)),gapsGo count r (count - 1) m ≠ 0
  | [] => by unfold gapsGo; rw [if_neg (by omega)]; decide
  | g :: r => by
    unfold gapsGo
    split
    · rw [if_neg (by omega)]; decide
    · decide
theorem gapsGo_ok {count : Nat} : ∀ (l : List (Int × Int)) (last missing : Int),gapsGo count l last missing = 0 → missing ≤ count → ∀ g ∈ l,GapOk count g
  | [],_,_,_,_,g,hg => by cases hg
  | x :: r,last,missing,h,hm,g,hg => by
    unfold gapsGo at h
    split at h
    · rename_i h1
      split at h
      · rename_i h2
        rcases List.mem_cons.1 hg with rfl | hg
        · refine ⟨g.1.toNat,g.2.toNat,by obtain ⟨a,b⟩ := g; simp only at h1 ⊢; congr 1 <;> omega,by omega,by omega,fun hh => ?_⟩
          have e : g.2 = count - 1 := by omega
          rw [e] at h
          exact gapsGo_full (by omega) (by omega) r h
        · exact gapsGo_ok r _ _ h (by omega) g hg
      · cases h
    · cases h
theorem gaps_ok {count : Nat} {l : List (Int × Int)} (h : gapsL count l = 0) {i : Nat} (hi : i < l.length) : GapOk count (l.getD i (0,0)) :=
  gapsGo_ok l _ _ h (Int.le_refl _) _ (by rw [List.getD_eq_getElem?_getD,List.getElem?_eq_getElem hi]; exact List.getElem_mem hi)
def bridgedL (l : List Int) (gs : List (Int × Int)) : List Int × Int :=
  if positionsErrL l = 0 then (if gapsL l.length gs = 0 then (bridgeGo l gs l,0) else ([],gapsL l.length gs)) else ([],positionsErrL l)
theorem bridgedL_err {l : List Int} {gs : List (Int × Int)} (h : (bridgedL l gs).2 ≠ 0) : (bridgedL l gs).1 = [] := by
  unfold bridgedL at *
  by_cases h1 : positionsErrL l = 0
  · by_cases h2 : gapsL l.length gs = 0
    · simp [h1,h2] at h
    · simp [h1,h2]
  · simp [h1]
theorem bridgedL_ok {l : List Int} {gs : List (Int × Int)} (h : (bridgedL l gs).2 = 0) : positionsErrL l = 0 ∧ gapsL l.length gs = 0 ∧ bridgedL l gs = (bridgeGo l gs l,0) := by
  unfold bridgedL at *
  by_cases h1 : positionsErrL l = 0
  · by_cases h2 : gapsL l.length gs = 0
    · exact ⟨h1,h2,by rw [if_pos h1,if_pos h2]⟩
    · rw [if_pos h1,if_neg h2] at h; exact absurd h h2
  · rw [if_neg h1] at h; exact absurd h h1
def IntsUse (H : AHeap) (out : List Int) (e : Int) (v : Value) (H1 : AHeap) : Prop := ∃ s,v = .tuple #[s,.int .i64 e] ∧ Ints H1 out s ∧ Ext H H1
section
variable {H : AHeap}
theorem bridged_c {l : List Int} {gs : List (Int × Int)} {v u : Value} (hl : Ints H l v) (hg : Pairs H gs u) (hb : l.length ≤ 1000000000) (hb2 : gs.length ≤ 1000000000) :
    ACall Go.Proofs.Tryz.prog 19 [v,u] H (IntsUse H (bridgedL l gs).1 (bridgedL l gs).2) := by
  (refine a19 ?_; simp only [n19,List.replicate,yq,yr,yt,yu]; first | refine q1 ?_ | refine q2 ?_ | refine q6 ?_ | refine q7 ?_ | refine qh rfl ?_ | skip)
  (refine yg ?_)
  refine aops_call_to (positionsErr_c hl hb) ?_
  (repeat(first|refine yw ?_|((first|apply yd|apply ye);simp (disch:=first|exact zz|fail) only[go_sem,hl.len,hl.idx,hl.load];with_reducible rfl)))
  refine aops_call_to (gapsErr_c hg (by omega) hb2) ?_
  (refine yg ?_)
  refine aops_call_to (first_c (l := [_,_]) (Ints.last (l := [_,_]) 2) (by simp)) ?_
  have hfe : firstErr [positionsErrL l,gapsL l.length gs] = (bridgedL l gs).2 := by
    unfold firstErr bridgedL
    by_cases h1 : positionsErrL l = 0
    · by_cases h2 : gapsL l.length gs = 0
      · simp [h1,h2]
      · simp [h1,h2]
    · simp [h1]
  rw [hfe]
  (refine yg ?_)
  refine cond_p rfl (fun hne => ?_) (fun heq => ?_)
  · (refine yg ?_)
    refine fin_2 ⟨_,rfl,?_,Ext.app (Ext.refl _) _⟩
    rw [bridgedL_err hne]
    exact ⟨rfl,.inl ⟨rfl,rfl⟩⟩
  · obtain ⟨h1,h2,h3⟩ := bridgedL_ok (Decidable.not_not.1 heq)
    have h32 : (bridgedL l gs).2 = 0 := by rw [h3]
    have hs := (sized_pos h1).1
    have hl200 := (sized_pos h1).2
    (refine yg ?_)
    refine aops_call ((clone_c (hl.ext ((Ext.refl _).app _)) hb).mono fun v1 H1 ⟨ho,hi1,hx1⟩ => ?_)
    have hx := ((Ext.refl H).app _).trans hx1
    by_cases h0 : l.length = 0
    · have hgs : gs = [] := by
        match gs,h2 with
        | [],_ => rfl
        | g :: r,h2 =>
          obtain ⟨a,b,_,hab,hbc,_⟩ := gaps_ok (i := 0) h2 (by simp)
          omega
      subst hgs
      have hout : (bridgedL l []).1 = l := by rw [h3]; rfl
      (repeat(first|refine yw ?_|((first|apply yd|apply ye);simp (disch:=first|exact zz|fail) only[go_sem,hg.len,hg.idx,hg.load];with_reducible rfl)))
      refine awp_loop_n [false,false,false,false,false,false,false,true,false,false,false,false,false,false,false,false,false,false,false,false,false,false,false,false,false,false,false,false,true,true,true,false,false,false,false,false,false,false,false,false,false,false,false,false,false,false,false,false,false,false,false,false,false,false,false,false,false,false,false,false,false,false,false,false,false,false,false,false,false,false,false,false,false,false,false,false,false,false,false,false,false,false,false,false,false,false,false,false,false,false,false,false,false,false,false,false] 0 (fun i e H' => H1 = H' ∧ e = [junk,junk,junk,junk,junk,junk,junk,v1,junk,junk,junk,junk,junk,junk,junk,junk,junk,junk,junk,junk,junk,junk,junk,junk,junk,junk,junk,junk,u,.int .i64 0,.int .i64 0,junk,junk,junk,junk,junk,junk,junk,junk,junk,junk,junk,junk,junk,junk,junk,junk,junk,junk,junk,junk,junk,junk,junk,junk,junk,junk,junk,junk,junk,junk,junk,junk,junk,junk,junk,junk,junk,junk,junk,junk,junk,junk,junk,junk,junk,junk,junk,junk,junk,junk,junk,junk,junk,junk,junk,junk,junk,junk,junk,junk,junk,junk,junk,junk,junk]) ?_ ?_
      · exact ⟨rfl,by simp [forget]⟩
      · rintro i e H' hi ⟨rfl,rfl⟩
        (repeat(first|refine yw ?_|((first|apply yd|apply ye);simp (disch:=first|exact zz|fail) only[go_sem,dec_f];with_reducible rfl)))
        refine cond_f rfl ?_
        (refine yg ?_)
        refine fin_2 ⟨_,by rw [h32]; rfl,?_,hx⟩
        rw [hout]; exact hi1
    · replace ho := ho (by omega)
      have hGx : Ext H (H ++ [.cells true 1 [.int .i64 (positionsErrL l),.int .i64 (gapsL l.length gs)]]) := (Ext.refl _).app _
      generalize (H ++ [.cells true 1 [.int .i64 (positionsErrL l),.int .i64 (gapsL l.length gs)]] : AHeap) = G at ho hx1 hGx
      (repeat(first|refine yw ?_|((first|apply yd|apply ye);simp (disch:=first|exact zz|fail) only[go_sem,hg.len,hg.idx,hg.load];with_reducible rfl)))
      refine awp_loop_n [true,false,false,false,false,false,false,true,false,false,false,false,false,false,false,false,false,false,false,false,false,false,false,false,false,false,false,false,true,true,true,false,false,false,false,false,false,false,false,false,false,false,false,false,false,false,false,false,false,false,false,false,false,false,false,false,false,false,false,false,false,false,false,false,false,false,false,false,false,false,false,false,false,false,false,false,false,false,false,false,false,false,false,false,false,false,false,false,false,false,false,false,false,false,false,false] gs.length (fun i e H' => ∃ out,e = [v,junk,junk,junk,junk,junk,junk,v1,junk,junk,junk,junk,junk,junk,junk,junk,junk,junk,junk,junk,junk,junk,junk,junk,junk,junk,junk,junk,u,.int .i64 gs.length,.int .i64 i,junk,junk,junk,junk,junk,junk,junk,junk,junk,junk,junk,junk,junk,junk,junk,junk,junk,junk,junk,junk,junk,junk,junk,junk,junk,junk,junk,junk,junk,junk,junk,junk,junk,junk,junk,junk,junk,junk,junk,junk,junk,junk,junk,junk,junk,junk,junk,junk,junk,junk,junk,junk,junk,junk,junk,junk,junk,junk,junk,junk,junk,junk,junk,junk,junk] ∧ OwnI G H' out v1 ∧ Ext G H' ∧ out.length = l.length ∧ bridgeGo l (gs.drop i) out = bridgeGo l gs l) ?_ ?_
      · exact ⟨l,by simp [forget],ho,hx1,rfl,rfl⟩
      rintro i e Hb hi ⟨out,rfl,ho,hxb,hlo,hv⟩
      (refine yg ?_)
      refine cond_p rfl (fun hlt => ?_) (fun hge => ?_)
      · rw [bridgeGo_step (by omega)] at hv
        have hi' : i < gs.length := by omega
        obtain ⟨a,b,hgab,hab,hbl,hnot⟩ := gaps_ok h2 hi'
        have hxH := hGx.trans hxb
        have hid := ho.id_lt (by omega)
        rw [hgab] at hv
        simp only [Int.toNat_natCast] at hv
        (repeat(first|refine yw ?_|((first|apply yd|apply ye);simp (disch:=first|exact zz|fail) only[go_sem,hg.len,hg.idx,hg.load,hgab];with_reducible rfl)))
        have hbox : (Hb ++ [.cells true 0 [.int .i64 a,.int .i64 b]])[Hb.length]? = some (AObj.cells true 0 [.int .i64 a,.int .i64 b]) := at_new
        have hne : idOf v1 ≠ Hb.length := by omega
        refine awp_loop_n [true,false,false,false,false,false,false,true,false,true,true,true,true,false,false,false,false,false,false,false,false,false,false,false,false,false,false,false,true,true,true,false,false,false,false,false,false,false,false,false,false,false,false,false,false,false,false,false,false,false,false,false,false,false,false,false,false,false,false,false,false,false,false,false,false,false,false,false,false,false,false,false,false,false,false,false,false,false,false,false,false,false,false,false,false,false,false,false,false,false,false,false,false,false,false,false] (b + 1 - a) (fun k e H' => ∃ out2,e = [v,junk,junk,junk,junk,junk,junk,v1,junk,.pointer (some ⟨Hb.length,0,none⟩),.int .i64 ((a : Int) - 1),.int .i64 ((b : Int) + 1),.int .i64 ((a + k : Nat) : Int),junk,junk,junk,junk,junk,junk,junk,junk,junk,junk,junk,junk,junk,junk,junk,u,.int .i64 gs.length,.int .i64 i,junk,junk,junk,junk,junk,junk,junk,junk,junk,junk,junk,junk,junk,junk,junk,junk,junk,junk,junk,junk,junk,junk,junk,junk,junk,junk,junk,junk,junk,junk,junk,junk,junk,junk,junk,junk,junk,junk,junk,junk,junk,junk,junk,junk,junk,junk,junk,junk,junk,junk,junk,junk,junk,junk,junk,junk,junk,junk,junk,junk,junk,junk,junk,junk,junk] ∧
          OwnI G H' out2 v1 ∧ Ext G H' ∧ out2.length = l.length ∧ H'[Hb.length]? = some (AObj.cells true 0 [.int .i64 a,.int .i64 b]) ∧ fillN l a b (b + 1 - a - k) (a + k) out2 = fillN l a b (b + 1 - a) a out) ?_ ?_
        · exact ⟨out,by simp [forget],ho.app _,hxb.app _,hlo,hbox,rfl⟩
        rintro k e H' hk ⟨out2,rfl,ho2,hx2,hlo2,hbx,hv2⟩
        have hl2 := hl.ext (hGx.trans hx2)
        have n0 : (0 : Nat) + 1 = 1 := rfl
        (repeat(first|refine yw ?_|((first|apply yd|apply ye);simp (disch:=first|exact zz|fail) only[go_sem,load_at hbx];with_reducible rfl)))
        refine cond_p rfl (fun hle => ?_) (fun hgt => ?_)
        · have hkb : a + k ≤ b := by omega
          have e1 : b + 1 - a - k = (b + 1 - a - (k + 1)) + 1 := by omega
          rw [e1] at hv2
          simp only [fillN] at hv2
          have hset : (out2.set (a + k) (fillV l a b (a + k))).length = l.length := by simp [hlo2]
          have fin : ∀ x,x = fillV l a b (a + k) → OwnI G (setH H' v1 (out2.set (a + k) x)) (out2.set (a + k) (fillV l a b (a + k))) v1 := fun x hx => by
            subst hx; exact ho2.stored _ (by simp)
          by_cases ha : a = 0
          · have hval : l.getD (b + 1) 0 = fillV l a b (a + k) := by unfold fillV; rw [if_pos ha]
            have c1 : ((b : Int) + 1) = ((b + 1 : Nat) : Int) := by omega
            have hb1 : b + 1 < l.length := by omega
            (repeat(first|refine yw ?_|((first|apply yd|apply ye);simp (disch:=first|exact zz|fail) only[go_sem,dec_t (show (a : Int) - 1 < 0 by omega)];with_reducible rfl)))
            refine cond_t rfl ?_
            (repeat(first|refine yw ?_|((first|apply yd|apply ye);simp (disch:=first|exact zz|fail) only[go_sem,hl2.len,hl2.idx,hl2.load,ho2.ints.len,ho2.ints.idx,ho2.ints.load,c1,ho2.store (show a + k < out2.length by omega)];with_reducible rfl)))
            refine ⟨by omega,_,?_,fin _ hval,ho2.ext_set hx2 _,hset,?_,?_⟩
            · simp [forget]; omega
            · rw [setH_at hne]; exact hbx
            · rw [← hv2,Nat.add_assoc]
          · have c2 : (a : Int) - 1 = ((a - 1 : Nat) : Int) := by omega
            (repeat(first|refine yw ?_|((first|apply yd|apply ye);simp (disch:=first|exact zz|fail) only[go_sem,dec_f (show ¬ (a : Int) - 1 < 0 by omega)];with_reducible rfl)))
            refine cond_f rfl ?_
            by_cases hbe : b + 1 = l.length
            · have hval : l.getD (a - 1) 0 = fillV l a b (a + k) := by unfold fillV; rw [if_neg ha,if_pos hbe]
              (repeat(first|refine yw ?_|((first|apply yd|apply ye);simp (disch:=first|exact zz|fail) only[go_sem,hl2.len,hl2.idx,hl2.load,dec_t (show (b : Int) + 1 = (l.length : Int) by omega)];with_reducible rfl)))
              refine cond_t rfl ?_
              (repeat(first|refine yw ?_|((first|apply yd|apply ye);simp (disch:=first|exact zz|fail) only[go_sem,hl2.len,hl2.idx,hl2.load,ho2.ints.len,ho2.ints.idx,ho2.ints.load,c2,ho2.store (show a + k < out2.length by omega)];with_reducible rfl)))
              refine ⟨by omega,_,?_,fin _ hval,ho2.ext_set hx2 _,hset,?_,?_⟩
              · simp [forget]; omega
              · rw [setH_at hne]; exact hbx
              · rw [← hv2,Nat.add_assoc]
            · have c1 : ((b : Int) + 1) = ((b + 1 : Nat) : Int) := by omega
              have s1 := hs (b + 1)
              have s2 := hs (a - 1)
              have hmul := mul_bound (x := l.getD (b + 1) 0 - l.getD (a - 1) 0) (y := ((a + k : Nat) : Int) - ((a - 1 : Nat) : Int)) (A := 2000000) (B := 1000) (by omega) (by omega) (by omega)
              have hdiv := ediv_bounds (b := ((b + 1 : Nat) : Int) - ((a - 1 : Nat) : Int)) (by omega) hmul (by omega)
              have hval : l.getD (a - 1) 0 + ((l.getD (b + 1) 0 - l.getD (a - 1) 0) * (((a + k : Nat) : Int) - ((a - 1 : Nat) : Int))) / (((b + 1 : Nat) : Int) - ((a - 1 : Nat) : Int)) = fillV l a b (a + k) := by
                unfold fillV; rw [if_neg ha,if_neg hbe]
              (repeat(first|refine yw ?_|((first|apply yd|apply ye);simp (disch:=first|exact zz|fail) only[go_sem,hl2.len,hl2.idx,hl2.load,dec_f (show ¬ (b : Int) + 1 = (l.length : Int) by omega)];with_reducible rfl)))
              refine cond_f rfl ?_
              (repeat(first|refine yw ?_|((first|apply yd|apply ye);simp (disch:=first|exact zz|fail) only[go_sem,hl2.len,hl2.idx,hl2.load,c1,c2];with_reducible rfl)))
              refine aops_call_to (floor_c _ _ (by omega) (by omega)) ?_
              (repeat(first|refine yw ?_|((first|apply yd|apply ye);simp (disch:=first|exact zz|fail) only[go_sem,ho2.ints.len,ho2.ints.idx,ho2.ints.load,ho2.store (show a + k < out2.length by omega)];with_reducible rfl)))
              refine ⟨by omega,_,?_,fin _ hval,ho2.ext_set hx2 _,hset,?_,?_⟩
              · simp [forget]; omega
              · rw [setH_at hne]; exact hbx
              · rw [← hv2,Nat.add_assoc]
        · (refine yg ?_)
          have ek : b + 1 - a - k = 0 := by omega
          rw [ek] at hv2
          simp only [fillN] at hv2
          rw [← hv2] at hv
          refine ⟨by omega,out2,?_,ho2,hx2,hlo2,hv⟩
          simp [forget]
      · (refine yg ?_)
        rw [bridgeGo_end (by omega)] at hv
        refine fin_2 ⟨_,by rw [h32]; rfl,?_,hGx.trans hxb⟩
        rw [h3]
        rw [← hv]
        exact ho.ints
end
end Go.Lq

namespace Go.Lq
open Go
open Go.Proofs
structure Disc (R : Nat → Nat) (L crack bend : Int) : Prop where
  ring : ∀ k,k < 8 → 1 ≤ R k ∧ R k ≤ 6
  step : ∀ k,0 < k → k < 8 → -1 ≤ (R k : Int) - R (k - 1) ∧ (R k : Int) - R (k - 1) ≤ 1
  light : 1 ≤ L ∧ L ≤ 255
  bnd : 0 ≤ bend ∧ bend ≤ 1000
  far : 7 * bend < L
  crk : -1 ≤ crack ∧ crack ≤ 6
def grooveP (R : Nat → Nat) : List Int := (List.range 8).map fun k => (R k : Int) - 1
theorem mem_at {α : Type} {l : List α} {i : Nat} {d : α} (h : i < l.length) : l[i] = l.getD i d := by rw [List.getD_eq_getElem?_getD,List.getElem?_eq_getElem h]; rfl
section
variable {R : Nat → Nat} {L crack bend : Int}
theorem groove_len : (grooveP R).length = 8 := by simp [grooveP]
theorem groove_at {k : Nat} (hk : k < 8) : (grooveP R).getD k 0 = (R k : Int) - 1 := by
  unfold grooveP; rw [List.getD_eq_getElem?_getD,List.getElem?_map,List.getElem?_range hk]; rfl
theorem disc_grid (h : Disc R L crack bend) : gridErrL 40 12 (discS R L crack) = 0 := by
  have w0 := disc_width (R := R) (L := L) (crack := crack) (k := 0) (by decide)
  unfold gridErrL
  rw [w0,disc_len,if_neg (by decide),if_neg (by decide)]
  refine gridGo_of fun r hr => ?_
  obtain ⟨k,hk,rfl⟩ := List.getElem_of_mem hr
  have hk8 : k < 8 := by rw [disc_len] at hk; exact hk
  rw [mem_at (d := []) hk]
  refine ⟨disc_width hk8,fun n hn => ?_⟩
  obtain ⟨c,hc,rfl⟩ := List.getElem_of_mem hn
  have hc6 : c < 6 := by rw [disc_width hk8] at hc; exact hc
  rw [mem_at (d := 0) hc,disc_at h.ring hk8 hc6]
  have := h.light
  split <;> omega
theorem disc_task (h : Disc R L crack bend) : taskErrL (discS R L crack) bend = 0 := by
  unfold taskErrL; rw [if_pos (disc_grid h),if_pos h.bnd]
theorem pix_disc (h : Disc R L crack bend) {p : List Int} {k : Nat} (hk : k < 8) (hp : 0 ≤ p.getD k 0 ∧ p.getD k 0 ≤ 5) : pixOf (discS R L crack) p k = if (k : Int) ≠ crack ∧ (R k : Int) = p.getD k 0 + 1 then 0 else L := by
  unfold pixOf
  rw [disc_at h.ring hk (by omega)]
  have : (R k = (p.getD k 0).toNat + 1) ↔ ((R k : Int) = p.getD k 0 + 1) := by omega
  simp only [this]
theorem groove_ok (h : Disc R L crack bend) : pathErrL (discS R L crack) (grooveP R) = 0 := by
  unfold pathErrL
  rw [groove_len,disc_len,if_pos rfl,disc_width (by decide)]
  refine pathGo_zero fun j _ hj => ?_
  have h1 := h.ring j (by omega)
  unfold pathBad
  rw [groove_at (by omega),if_pos (by omega),if_pos]
  by_cases h0 : j = 0
  · exact .inl h0
  · have := h.step j (by omega) (by omega)
    rw [groove_at (by omega)]
    exact .inr (by omega)
def cr (L crack : Int) (n : Nat) : Int := if 0 ≤ crack ∧ crack < n then L else 0
theorem cr_succ (h0 : -1 ≤ crack) (n : Nat) : cr L crack (n + 1) = cr L crack n + if (n : Int) = crack then L else 0 := by
  unfold cr
  split <;> split <;> split <;> omega
theorem upper (h : Disc R L crack bend) : ∀ n : Nat,n < 8 → costTo (discS R L crack) bend (grooveP R) (n + 1) ≤ cr L crack (n + 1) + (n : Int) * bend
  | 0,hn => by
    have h1 := pix_disc h (p := grooveP R) (k := 0) (by omega) (by rw [groove_at (by omega)]; have := h.ring 0 (by omega); omega)
    rw [groove_at (by omega)] at h1
    rw [cr_succ h.crk.1]
    simp only [costTo,bendAt,h1]
    have : cr L crack 0 = 0 := by unfold cr; rw [if_neg]; omega
    rw [this]
    simp only [if_true]
    split <;> split <;> omega
  | n + 1,hn => by
    have ih := upper h n (by omega)
    have h1 := pix_disc h (p := grooveP R) (k := n + 1) (by omega) (by rw [groove_at (by omega)]; have := h.ring (n + 1) (by omega); omega)
    rw [groove_at (by omega)] at h1
    have h2 := bendAt_bound (p := grooveP R) (i := n + 1) h.bnd
    have h3 : bendAt bend (grooveP R) (n + 1) ≤ bend := by
      unfold bendAt bendI
      have := h.bnd
      split
      · omega
      · split <;> omega
    rw [cr_succ h.crk.1]
    show costTo (discS R L crack) bend (grooveP R) (n + 1) + pixOf (discS R L crack) (grooveP R) (n + 1) + bendAt bend (grooveP R) (n + 1) ≤ _
    rw [h1]
    have h4 : ((n + 1 : Nat) : Int) * bend = (n : Int) * bend + bend := by rw [Int.natCast_succ,Int.add_mul,Int.one_mul]
    rw [h4]
    split <;> split <;> omega
theorem lower (h : Disc R L crack bend) {p : List Int} (hp : ∀ k,k < 8 → 0 ≤ p.getD k 0 ∧ p.getD k 0 ≤ 5) : ∀ n : Nat,n ≤ 8 → cr L crack n ≤ costTo (discS R L crack) bend p n ∧
    ((∃ k : Nat,k < n ∧ (k : Int) ≠ crack ∧ (R k : Int) ≠ p.getD k 0 + 1) → cr L crack n + L ≤ costTo (discS R L crack) bend p n)
  | 0,hn => by
    have : cr L crack 0 = 0 := by unfold cr; rw [if_neg]; omega
    exact ⟨by rw [this]; simp [costTo],fun ⟨k,hk,_⟩ => by omega⟩
  | n + 1,hn => by
    obtain ⟨i1,i2⟩ := lower h hp n (by omega)
    have h1 := pix_disc h (p := p) (k := n) (by omega) (hp n (by omega))
    have h2 := bendAt_bound (p := p) (i := n) h.bnd
    have hl := h.light
    have hs : costTo (discS R L crack) bend p (n + 1) = costTo (discS R L crack) bend p n + pixOf (discS R L crack) p n + bendAt bend p n := rfl
    rw [cr_succ h.crk.1,hs,h1]
    refine ⟨by split <;> split <;> omega,fun ⟨k,hk,h3,h4⟩ => ?_⟩
    by_cases hkn : k = n
    · subst hkn
      rw [if_neg h3,if_neg (fun hh => h4 hh.2)]
      omega
    · have := i2 ⟨k,by omega,h3,h4⟩
      split <;> split <;> omega
theorem follows (h : Disc R L crack bend) : (bestP (discS R L crack) bend).1.length = 8 ∧ (∀ k,k < 8 → 0 ≤ (bestP (discS R L crack) bend).1.getD k 0 ∧ (bestP (discS R L crack) bend).1.getD k 0 ≤ 5) ∧
    ∀ k : Nat,k < 8 → (k : Int) ≠ crack → (bestP (discS R L crack) bend).1.getD k 0 = (R k : Int) - 1 := by
  obtain ⟨_,k1,k2,k3⟩ := best_law (disc_grid h) h.bnd
  obtain ⟨pl,pv⟩ := pathErr_ok k1
  rw [disc_len] at pl
  rw [pl] at k2
  have hp : ∀ k,k < 8 → 0 ≤ (bestP (discS R L crack) bend).1.getD k 0 ∧ (bestP (discS R L crack) bend).1.getD k 0 ≤ 5 := fun k hk => by
    have := (pv k (by omega)).1
    rw [disc_width (by decide)] at this
    omega
  refine ⟨pl,hp,fun k hk hc => ?_⟩
  have h1 := (k3 (grooveP R) (groove_ok h)).1
  rw [groove_len] at h1
  have h2 : costTo (discS R L crack) bend (grooveP R) 8 ≤ cr L crack 8 + 7 * bend := upper h 7 (by decide)
  have h3 := (lower h hp 8 (Nat.le_refl _)).2
  have hf := h.far
  refine Decidable.byContradiction fun hne => ?_
  have := h3 ⟨k,hk,hc,fun e => hne (by omega)⟩
  omega
theorem disc_cracks (h : Disc R L crack bend) {p : List Int} (hp : ∀ k,k < 8 → 0 ≤ p.getD k 0 ∧ p.getD k 0 ≤ 5) (hf : ∀ k : Nat,k < 8 → (k : Int) ≠ crack → p.getD k 0 = (R k : Int) - 1) :
    ∀ n : Nat,n ≤ 8 → cracksTo (discS R L crack) p 0 n = if 0 ≤ crack ∧ crack < n then [(crack,crack)] else []
  | 0,_ => by rw [if_neg (by omega)]; rfl
  | n + 1,hn => by
    have ih := disc_cracks h hp hf n (by omega)
    have h1 := pix_disc h (p := p) (k := n) (by omega) (hp n (by omega))
    have hl := h.light
    show crackStep (discS R L crack) p 0 (cracksTo (discS R L crack) p 0 n) n = _
    unfold crackStep
    rw [ih,h1]
    by_cases hc : (n : Int) = crack
    · rw [if_neg (show ¬ ((n : Int) ≠ crack ∧ (R n : Int) = p.getD n 0 + 1) from fun hh => hh.1 hc),if_neg (by omega),if_neg (show ¬ (0 ≤ crack ∧ crack < (n : Int)) by omega),if_pos (show 0 ≤ crack ∧ crack < ((n + 1 : Nat) : Int) by omega)]
      simp [hc]
    · have := hf n (by omega) hc
      rw [if_pos (show (n : Int) ≠ crack ∧ (R n : Int) = p.getD n 0 + 1 from ⟨hc,by omega⟩),if_pos (Int.le_refl _)]
      by_cases hi : 0 ≤ crack ∧ crack < (n : Int)
      · rw [if_pos hi,if_pos (by omega)]
      · rw [if_neg hi,if_neg (by omega)]
theorem disc_bridged (h : Disc R L crack bend) {p : List Int} (pl : p.length = 8) (hp : ∀ k,k < 8 → 0 ≤ p.getD k 0 ∧ p.getD k 0 ≤ 5) :
    ∃ b,bridgedL p (if 0 ≤ crack ∧ crack < ((8 : Nat) : Int) then [(crack,crack)] else []) = (b,0) ∧ b.length = 8 ∧ (∀ k : Nat,k < 8 → (k : Int) ≠ crack → b.getD k 0 = p.getD k 0) ∧ positionsErrL b = 0 := by
  have ok : ∀ {q : List Int},q.length = 8 → (∀ k,k < 8 → -100 ≤ q.getD k 0 ∧ q.getD k 0 ≤ 100) → positionsErrL q = 0 := fun {q} hl hq => by
    unfold positionsErrL
    rw [if_neg (by omega),if_pos]
    rw [List.all_eq_true]
    intro n hn
    obtain ⟨i,hi,rfl⟩ := List.getElem_of_mem hn
    rw [mem_at (d := 0) hi]
    have := hq i (by omega)
    exact sizedB_t ⟨by omega,by omega⟩
  have p0 : positionsErrL p = 0 := ok pl fun k hk => by have := hp k hk; omega
  have hc := h.crk
  by_cases h0 : 0 ≤ crack
  · obtain ⟨c,rfl⟩ : ∃ c : Nat,crack = c := ⟨crack.toNat,by omega⟩
    rw [if_pos (by omega)]
    have hcn : (c : Int).toNat = c := by omega
    have hfill : -100 ≤ fillV p c c c ∧ fillV p c c c ≤ 100 := by
      have ha := hp (c - 1) (by omega)
      have hb := hp (c + 1) (by omega)
      unfold fillV
      split
      · omega
      · split
        · omega
        · rename_i h1 _
          have e1 : (c : Int) - ((c - 1 : Nat) : Int) = 1 := by omega
          have e2 : ((c + 1 : Nat) : Int) - ((c - 1 : Nat) : Int) = 2 := by omega
          rw [e1,e2,Int.mul_one]
          omega
    refine ⟨p.set c (fillV p c c c),?_,by simp [pl],fun k hk hkc => ?_,ok (by simp [pl]) fun k hk => ?_⟩
    · unfold bridgedL
      have hg : gapsL p.length [((c : Int),(c : Int))] = 0 := by
        unfold gapsL gapsGo gapsGo
        rw [pl,if_pos (by omega),if_pos (by omega),if_pos (by omega)]
      rw [if_pos p0,if_pos hg]
      show (fillN p (c : Int).toNat (c : Int).toNat ((c : Int).toNat + 1 - (c : Int).toNat) (c : Int).toNat p,(0 : Int)) = _
      rw [hcn,show c + 1 - c = 1 by omega]
      rfl
    · rw [getD_setZ (by omega),if_neg (by omega)]
    · rw [getD_setZ (by omega)]
      split
      · exact hfill
      · have := hp k hk; omega
  · rw [if_neg (by omega)]
    refine ⟨p,?_,pl,fun _ _ _ => rfl,p0⟩
    unfold bridgedL
    have hg : gapsL p.length [] = 0 := by
      unfold gapsL gapsGo
      rw [pl]; rfl
    rw [if_pos p0,if_pos hg]
    rfl
end
end Go.Lq


namespace Go.Lq
open Go
open Go.Proofs
theorem a_sub8 {H : AHeap} {a b : Int} (h0 : 0 ≤ a - b) (h1 : a - b < 256) : arithR .sub (.int .u8 a) (.int .u8 b) H = some (.int .u8 (a - b),H) := by
  have : IntKind.u8.wrap (a - b) = a - b := by
    unfold IntKind.wrap IntKind.bits
    have : (2 : Int) ^ 8 = 256 := by decide
    simp [IntKind.signed]
    omega
  simp [arithR,arithA,this]
attribute [go_sem] a_sub8
def digV (acc : Int) : List UInt8 → Option Int
  | [] => some acc
  | b :: r => if ((b.toNat : Nat) : Int) < 48 ∨ 57 < ((b.toNat : Nat) : Int) then none else digV (10 * acc + (((b.toNat : Nat) : Int) - 48)) r
def signAt (l : List UInt8) : Nat := if 0 < l.length ∧ at8 l 0 = 45 then 1 else 0
def numB (d : Int) (l : List UInt8) : Option Int :=
  if (l.length : Int) = (signAt l : Nat) ∨ d < (l.length : Int) - (signAt l : Nat) ∨ (at8 l (signAt l : Nat) = 48 ∧ 1 < (l.length : Int)) then none
  else (digV 0 (l.drop (signAt l))).map fun n => if ((signAt l : Nat) : Int) = 1 then -n else n
section
variable {H : AHeap}
end
end Go.Lq

namespace Go.Lq
open Go
open Go.Proofs
def numR (d : Int) (l : List UInt8) : Option Int := match numB d l with | some n => if at8 l 0 ≠ 45 then some n else none | none => none
theorem numB_pos {d : Int} {l : List UInt8} {n : Int} (h : numB d l = some n) : 0 < l.length := by
  match l with
  | [] =>
    unfold numB at h
    rw [if_pos (.inl (by rfl))] at h
    cases h
  | _ :: _ => simp
section
variable {H : AHeap}
theorem dec_step {u : Nat} (h : ¬ u < 10) : Lib.decDigits u = Lib.decDigits (u / 10) ++ [UInt8.ofNat (48 + u % 10)] := by
  rw [Lib.decDigits,dif_neg h]
end
end Go.Lq

namespace Go.Lq
open Go
open Go.Proofs
def cutL (c : UInt8) : List UInt8 → List (List UInt8)
  | [] => [[]]
  | b :: r => if b = c then [] :: cutL c r else match cutL c r with | x :: xs => (b :: x) :: xs | [] => [[b]]
theorem cutL_ne (c : UInt8) (l : List UInt8) : ∃ x xs,cutL c l = x :: xs := by
  cases l with
  | nil => exact ⟨_,_,rfl⟩
  | cons b r =>
    unfold cutL
    split
    · exact ⟨_,_,rfl⟩
    · split <;> exact ⟨_,_,rfl⟩
theorem cutL_length (c : UInt8) (l : List UInt8) : (cutL c l).length ≤ l.length + 1 := by
  induction l with
  | nil => simp [cutL]
  | cons b r ih =>
    unfold cutL
    split
    · simp; omega
    · obtain ⟨x,xs,e⟩ := cutL_ne c r
      rw [e] at ih ⊢
      simp at ih ⊢; omega
theorem cutL_piece (c : UInt8) (l : List UInt8) : ∀ x ∈ cutL c l,x.length ≤ l.length := by
  induction l with
  | nil => simp [cutL]
  | cons b r ih =>
    unfold cutL
    split
    · intro x hx
      rcases List.mem_cons.1 hx with rfl | hx
      · simp
      · have := ih x hx; simp; omega
    · obtain ⟨y,ys,e⟩ := cutL_ne c r
      rw [e] at ih ⊢
      intro x hx
      rcases List.mem_cons.1 hx with rfl | hx
      · have := ih y (List.mem_cons_self ..); simp; omega
      · have := ih x (List.mem_cons_of_mem _ hx); simp; omega
section
variable {H : AHeap}
end
end Go.Lq

namespace Go.Lq
open Go
def allD (l : List UInt8) : Prop := ∀ b ∈ l,48 ≤ b.toNat ∧ b.toNat ≤ 57
def valF (acc : Nat) (l : List UInt8) : Nat := l.foldl (fun a b => 10 * a + (b.toNat - 48)) acc
theorem valF_cons (acc : Nat) (b : UInt8) (r : List UInt8) : valF acc (b :: r) = valF (10 * acc + (b.toNat - 48)) r := by unfold valF; rw [List.foldl_cons]
theorem valF_snoc (acc : Nat) (l : List UInt8) (b : UInt8) : valF acc (l ++ [b]) = 10 * valF acc l + (b.toNat - 48) := by simp [valF,List.foldl_append]
theorem valF_ge : ∀ (l : List UInt8) (acc : Nat),acc ≤ valF acc l
  | [],acc => Nat.le_refl _
  | b :: r,acc => by rw [valF_cons]; have := valF_ge r (10 * acc + (b.toNat - 48)); omega
theorem digV_all : ∀ (l : List UInt8) (acc : Nat),allD l → digV acc l = some (valF acc l : Nat)
  | [],acc,_ => rfl
  | b :: r,acc,h => by
    have hb := h b (List.mem_cons_self ..)
    rw [digV,if_neg (by omega),valF_cons,← digV_all r _ fun x hx => h x (List.mem_cons_of_mem _ hx)]
    congr 1
    omega
theorem digV_some : ∀ (l : List UInt8) (acc n : Int),digV acc l = some n → allD l
  | [],_,_,_ => fun b h => by cases h
  | b :: r,acc,n,h => by
    rw [digV] at h
    split at h
    · cases h
    · rename_i hb
      intro x hx
      rcases List.mem_cons.1 hx with rfl | hx
      · omega
      · exact digV_some r _ n h x hx
theorem parse_all : ∀ (l : List UInt8) (acc : Nat),allD l → valF acc l < 9223372036854775808 → Lib.parseUint10 acc l = .ok (valF acc l)
  | [],acc,_,_ => rfl
  | b :: r,acc,h,hv => by
    have hb := h b (List.mem_cons_self ..)
    rw [valF_cons] at hv ⊢
    have hge := valF_ge r (10 * acc + (b.toNat - 48))
    rw [Lib.parseUint10,if_pos hb,if_neg (by omega),if_neg (by omega),Nat.mul_comm acc 10]
    exact parse_all r _ (fun x hx => h x (List.mem_cons_of_mem _ hx)) hv
theorem ofNat_toNat {k : Nat} (h : k < 256) : (UInt8.ofNat k).toNat = k := by
  rw [UInt8.toNat_ofNat']; omega
theorem dec_all (u : Nat) : allD (Lib.decDigits u) ∧ valF 0 (Lib.decDigits u) = u ∧ ∃ b r,Lib.decDigits u = b :: r ∧ (b.toNat = 48 → u = 0) := by
  induction u using Nat.strongRecOn with
  | ind u ih =>
    by_cases h : u < 10
    · rw [Lib.decDigits_one h]
      have e := ofNat_toNat (k := 48 + u) (by omega)
      refine ⟨fun b hb => ?_,?_,_,_,rfl,?_⟩
      · rw [List.mem_singleton.1 hb,e]; omega
      · show 10 * 0 + ((UInt8.ofNat (48 + u)).toNat - 48) = u
        rw [e]; omega
      · rw [e]; omega
    · rw [dec_step h]
      obtain ⟨h1,h2,b,r,h3,h4⟩ := ih (u / 10) (by omega)
      have hm := Nat.mod_lt u (show 0 < 10 by decide)
      have e := ofNat_toNat (k := 48 + u % 10) (by omega)
      refine ⟨fun x hx => ?_,?_,b,r ++ [_],by rw [h3]; rfl,fun hb => by have := h4 hb; omega⟩
      · rcases List.mem_append.1 hx with hx | hx
        · exact h1 x hx
        · rw [List.mem_singleton.1 hx,e]; omega
      · rw [valF_snoc,h2,e]; omega
theorem snoc_ind {p : List UInt8 → Prop} (h0 : p []) (h1 : ∀ l b,p l → p (l ++ [b])) (l : List UInt8) : p l := by
  have : ∀ m : List UInt8,p m.reverse := fun m => by
    induction m with
    | nil => exact h0
    | cons b r ih => rw [List.reverse_cons]; exact h1 _ _ ih
  have := this l.reverse
  rwa [List.reverse_reverse] at this
theorem dec_val (l : List UInt8) : allD l → l ≠ [] → (at8 l 0 = 48 → l.length = 1) → Lib.decDigits (valF 0 l) = l := by
  induction l using snoc_ind with
  | h0 => intro _ h; exact absurd rfl h
  | h1 l b ih =>
    intro hall _ hz
    have hb := hall b (by simp)
    have hl : allD l := fun x hx => hall x (by simp [hx])
    have eb : UInt8.ofNat (48 + (b.toNat - 48)) = b := by
      apply UInt8.toNat_inj.1
      rw [ofNat_toNat (by omega)]; omega
    rw [valF_snoc]
    by_cases hn : l = []
    · subst hn
      show Lib.decDigits (10 * 0 + _) = _
      rw [Nat.mul_zero,Nat.zero_add,Lib.decDigits_one (by omega),eb]
      rfl
    · have hpos : 0 < l.length := List.length_pos_iff.2 hn
      have h0 : at8 (l ++ [b]) 0 = at8 l 0 := by
        unfold at8
        rw [show (0 : Int).toNat = 0 from rfl,getD_append_lt hpos]
      have hnz : at8 l 0 ≠ 48 := fun h => by
        have := hz (by rw [h0]; exact h)
        simp at this
        exact hn this
      have ihl := ih hl hn fun h => absurd h hnz
      have hv : valF 0 l ≠ 0 := fun h => by
        rw [h,Lib.decDigits_one (by decide)] at ihl
        apply hnz
        rw [← ihl]; rfl
      rw [dec_step (by omega),show (10 * valF 0 l + (b.toNat - 48)) / 10 = valF 0 l by omega,show (10 * valF 0 l + (b.toNat - 48)) % 10 = b.toNat - 48 by omega,ihl,eb]
theorem itoa_nat (u : Nat) : Lib.itoa (u : Int) = Lib.decDigits u := by unfold Lib.itoa; rw [if_neg (by omega),Int.toNat_natCast]
theorem atoi_dec {u : Nat} (h : u < 9223372036854775808) : Lib.atoiAll (Lib.decDigits u) = .ok (u : Int) := by
  obtain ⟨h1,h2,b,r,h3,_⟩ := dec_all u
  have hb := h1 b (by rw [h3]; simp)
  rw [h3,Lib.atoiAll_plain b r (by omega) (by omega),← h3]
  unfold Lib.parseMag
  rw [if_neg (by rw [h3]; simp),parse_all _ _ h1 (by rw [h2]; exact h),h2]
  simp only [Lib.signless]
  rw [if_neg (by omega)]
theorem numR_iff {d n : Int} {l : List UInt8} (hd : d ≤ 18) : numR d l = some n ↔ (0 ≤ n ∧ Lib.itoa n = l ∧ (l.length : Int) ≤ d) := by
  constructor
  · intro h
    unfold numR at h
    split at h
    · rename_i m hm
      split at h
      · rename_i h45
        cases h
        have hs : signAt l = 0 := by unfold signAt; rw [if_neg (fun h => h45 h.2)]
        unfold numB at hm
        rw [hs] at hm
        split at hm
        · cases hm
        · rename_i hc
          have c1 : ¬ (l.length : Int) = 0 := fun h => hc (.inl h)
          have c2 : ¬ d < (l.length : Int) := fun h => hc (.inr (.inl (by simpa using h)))
          have c3 : ¬ (at8 l 0 = 48 ∧ 1 < (l.length : Int)) := fun h => hc (.inr (.inr h))
          have hm : digV 0 l = some n := by
            cases hv : digV 0 (l.drop 0) with
            | none => rw [hv] at hm; cases hm
            | some k =>
              rw [hv] at hm
              have : k = n := by simpa using hm
              rw [← this]; exact hv
          have hall := digV_some l 0 n hm
          have hv := digV_all l 0 hall
          have e : n = (valF 0 l : Nat) := by
            have : some n = some ((valF 0 l : Nat) : Int) := hm.symm.trans hv
            exact Option.some.inj this
          subst e
          refine ⟨by omega,?_,by omega⟩
          rw [itoa_nat]
          exact dec_val l hall (fun h => c1 (by rw [h]; rfl)) fun h => by
            have : ¬ 1 < (l.length : Int) := fun h' => c3 ⟨h,h'⟩
            omega
      · cases h
    · cases h
  · rintro ⟨h0,h2,h3⟩
    obtain ⟨u,rfl⟩ : ∃ u : Nat,n = u := ⟨n.toNat,by omega⟩
    rw [itoa_nat] at h2
    obtain ⟨h4,h5,b,r,h6,h7⟩ := dec_all u
    rw [h2] at h4 h5 h6
    have hb := h4 b (by rw [h6]; simp)
    have a0 : at8 l 0 = ((b.toNat : Nat) : Int) := by rw [h6]; rfl
    have hs : signAt l = 0 := by unfold signAt; rw [if_neg (fun h => by have := h.2; omega)]
    have hB : numB d l = some (u : Int) := by
      unfold numB
      rw [hs]
      have hv := digV_all l 0 h4
      rw [h5] at hv
      have hv : digV 0 (l.drop 0) = some (u : Int) := hv
      rw [hv,if_neg]
      · rfl
      · rintro (h | h | ⟨h,h'⟩)
        · rw [h6] at h; simp at h; omega
        · have : d < (l.length : Int) := by simpa using h
          omega
        · have hb48 : b.toNat = 48 := by have : at8 l 0 = 48 := h; omega
          have := h7 hb48
          subst this
          rw [Lib.decDigits_one (by decide)] at h2
          rw [← h2] at h'
          simp at h'
    unfold numR
    rw [hB]
    simp only
    rw [if_pos (by omega)]
/-! ### A text cut -/
theorem index_eq (c : UInt8) (r : List UInt8) : Lib.index (c :: r) [c] = 0 := by simp [Lib.index,List.isPrefixOf]
theorem index_ne {b c : UInt8} (h : b ≠ c) (r : List UInt8) : Lib.index (b :: r) [c] = if Lib.index r [c] = -1 then -1 else Lib.index r [c] + 1 := by
  have : ([c].isPrefixOf (b :: r)) = false := by simp [List.isPrefixOf,h.symm]
  rw [Lib.index,this]
  simp
theorem cut_cutL (c : UInt8) (l : List UInt8) : cutL c l = if (Lib.cut l [c]).2.2 = true then (Lib.cut l [c]).1 :: cutL c (Lib.cut l [c]).2.1 else [l] := by
  induction l with
  | nil => simp [cutL,Lib.cut,Lib.index]
  | cons b r ih =>
    by_cases h : b = c
    · subst h
      rw [cutL,if_pos rfl]
      simp [Lib.cut,index_eq]
    · have hg := Lib.index_ge r [c]
      rw [cutL,if_neg h,ih]
      unfold Lib.cut
      rw [index_ne h]
      by_cases hm : Lib.index r [c] = -1
      · simp [hm]
      · have e1 : 0 ≤ Lib.index r [c] := by omega
        have e2 : 0 ≤ Lib.index r [c] + 1 := by omega
        have e3 : (Lib.index r [c] + 1).toNat = (Lib.index r [c]).toNat + 1 := by omega
        simp only [if_neg hm,if_pos e1,if_pos e2,if_true,e3]
        simp [Nat.add_right_comm]
def i64 (n : Int) : Prop := -9223372036854775808 ≤ n ∧ n ≤ 9223372036854775807
end Go.Lq

namespace Go.Lq
open Go
def trimM (l : List UInt8) : List UInt8 := match l with | b :: r => if b = 45 then r else l | [] => []
theorem trimM_minus (r : List UInt8) : trimM (45 :: r) = r := by simp [trimM]
theorem trimM_plain {b : UInt8} (h : b ≠ 45) (r : List UInt8) : trimM (b :: r) = b :: r := by simp [trimM,h]
def numS (d : Int) (l : List UInt8) : Option Int := match Lib.atoiAll l with | .ok n => if Lib.itoa n = l ∧ ((trimM l).length : Int) ≤ d then some n else none | _ => none
theorem itoa_neg {u : Nat} (h : 0 < u) : Lib.itoa (-(u : Int)) = 45 :: Lib.decDigits u := by
  unfold Lib.itoa
  rw [if_pos (by omega),Int.natAbs_neg,Int.natAbs_natCast]
theorem parse_big : ∀ (l : List UInt8) (acc : Nat),allD l → valF acc l < 18446744073709551616 → Lib.parseUint10 acc l = .ok (valF acc l)
  | [],acc,_,_ => rfl
  | b :: r,acc,h,hv => by
    have hb := h b (List.mem_cons_self ..)
    rw [valF_cons] at hv ⊢
    have hge := valF_ge r (10 * acc + (b.toNat - 48))
    rw [Lib.parseUint10,if_pos hb,if_neg (by omega),if_neg (by omega),Nat.mul_comm acc 10]
    exact parse_big r _ (fun x hx => h x (List.mem_cons_of_mem _ hx)) hv
theorem atoi_itoa {n : Int} (h0 : -9223372036854775808 ≤ n) (h1 : n ≤ 9223372036854775807) : Lib.atoiAll (Lib.itoa n) = .ok n := by
  by_cases hn : 0 ≤ n
  · obtain ⟨u,rfl⟩ : ∃ u : Nat,n = u := ⟨n.toNat,by omega⟩
    rw [itoa_nat]; exact atoi_dec (by omega)
  · obtain ⟨u,rfl⟩ : ∃ u : Nat,n = -(u : Int) := ⟨n.natAbs,by omega⟩
    rw [itoa_neg (by omega),Lib.atoiAll_minus]
    obtain ⟨h2,h3,b,r,h4,_⟩ := dec_all u
    unfold Lib.parseMag
    rw [if_neg (by rw [h4]; simp),parse_big _ _ h2 (by rw [h3]; omega),h3]
    simp only [Lib.signed]
    rw [if_neg (by omega)]
theorem numS_iff {d n : Int} {l : List UInt8} : numS d l = some n ↔ (-9223372036854775808 ≤ n ∧ n ≤ 9223372036854775807 ∧ Lib.itoa n = l ∧ ((trimM l).length : Int) ≤ d) := by
  constructor
  · intro h
    unfold numS at h
    split at h
    · rename_i m hm
      split at h
      · rename_i hc
        cases h
        exact ⟨(Lib.atoiAll_bounds hm).1,(Lib.atoiAll_bounds hm).2,hc⟩
      · cases h
    · cases h
  · rintro ⟨h0,h1,h2,h3⟩
    have e : Lib.atoiAll l = .ok n := by rw [← h2]; exact atoi_itoa h0 h1
    unfold numS
    rw [e]
    simp [h2,h3]
theorem at8_cons (b : UInt8) (r : List UInt8) : at8 (b :: r) 0 = ((b.toNat : Nat) : Int) := rfl
theorem numB_iff {d n : Int} {l : List UInt8} (hd : d ≤ 18) : numB d l = some n ↔ (Lib.itoa n = l ∧ ((trimM l).length : Int) ≤ d) := by
  match l with
  | [] =>
    constructor
    · intro h; exact absurd (numB_pos h) (by simp)
    · rintro ⟨h,_⟩
      exfalso
      by_cases hn : 0 ≤ n
      · obtain ⟨u,rfl⟩ : ∃ u : Nat,n = u := ⟨n.toNat,by omega⟩
        obtain ⟨_,_,b,r,h4,_⟩ := dec_all u
        rw [itoa_nat,h4] at h; cases h
      · obtain ⟨u,rfl⟩ : ∃ u : Nat,n = -(u : Int) := ⟨n.natAbs,by omega⟩
        rw [itoa_neg (by omega)] at h; cases h
  | b :: r =>
    by_cases hb : b = 45
    · subst hb
      have hs : signAt (45 :: r) = 1 := by unfold signAt; rw [if_pos ⟨by simp,by rfl⟩]
      have ha1 : at8 (45 :: r) ((1 : Nat) : Int) = at8 r 0 := rfl
      have hN : numB d (45 :: r) = if r.length = 0 ∨ d < (r.length : Int) ∨ at8 r 0 = 48 ∧ 0 < r.length then none else (digV 0 r).map fun n => -n := by
        unfold numB
        rw [hs,ha1]
        have e1 : (((45 : UInt8) :: r).length : Int) = ((r.length : Nat) : Int) + 1 := by simp
        rw [e1]
        have hiff : (((r.length : Nat) : Int) + 1 = ((1 : Nat) : Int) ∨ d < ((r.length : Nat) : Int) + 1 - ((1 : Nat) : Int) ∨ at8 r 0 = 48 ∧ 1 < ((r.length : Nat) : Int) + 1) ↔ (r.length = 0 ∨ d < (r.length : Int) ∨ at8 r 0 = 48 ∧ 0 < r.length) := by
          constructor
          · intro h
            rcases h with h | h | ⟨h,h'⟩
            · left; omega
            · right; left; omega
            · right; right; exact ⟨h,by omega⟩
          · intro h
            rcases h with h | h | ⟨h,h'⟩
            · left; omega
            · right; left; omega
            · right; right; exact ⟨h,by omega⟩
        by_cases hc : r.length = 0 ∨ d < (r.length : Int) ∨ at8 r 0 = 48 ∧ 0 < r.length
        · rw [if_pos hc,if_pos (hiff.2 hc)]
        · rw [if_neg hc,if_neg fun h => hc (hiff.1 h)]
          simp
      rw [trimM_minus]
      constructor
      · intro h
        rw [hN] at h
        split at h
        · cases h
        · rename_i hc
          have hr : r ≠ [] := fun e => hc (.inl (by rw [e]; rfl))
          have hpos := List.length_pos_iff.2 hr
          cases hv : digV 0 r with
          | none => rw [hv] at h; cases h
          | some k =>
            rw [hv] at h
            obtain rfl : -k = n := by simpa using h
            have hall := digV_some r 0 k hv
            have hv2 := digV_all r 0 hall
            have e : k = (valF 0 r : Nat) := by
              have : some k = some ((valF 0 r : Nat) : Int) := hv.symm.trans hv2
              exact Option.some.inj this
            have hdv := dec_val r hall hr fun h48 => absurd (⟨h48,hpos⟩ : at8 r 0 = 48 ∧ 0 < r.length) (fun h => hc (.inr (.inr h)))
            have h0 : 0 < valF 0 r := by
              rcases Nat.eq_zero_or_pos (valF 0 r) with h0 | h0
              · exfalso
                rw [h0,Lib.decDigits_one (by decide)] at hdv
                apply hc; right; right
                rw [← hdv]; exact ⟨rfl,by simp⟩
              · exact h0
            rw [e,itoa_neg h0,hdv]
            exact ⟨rfl,by omega⟩
      · rintro ⟨h1,h2⟩
        by_cases hn : 0 ≤ n
        · obtain ⟨u,rfl⟩ : ∃ u : Nat,n = u := ⟨n.toNat,by omega⟩
          obtain ⟨h3,_,b,r',h4,_⟩ := dec_all u
          rw [itoa_nat] at h1
          have := h3 45 (by rw [h1]; simp)
          have e45 : (45 : UInt8).toNat = 45 := rfl
          omega
        · obtain ⟨u,rfl⟩ : ∃ u : Nat,n = -(u : Int) := ⟨n.natAbs,by omega⟩
          rw [itoa_neg (by omega)] at h1
          have h1 : Lib.decDigits u = r := by simpa using h1
          obtain ⟨h3,h4,c,r',h5,h6⟩ := dec_all u
          rw [h1] at h3 h4 h5
          have hv := digV_all r 0 h3
          rw [h4] at hv
          rw [hN,if_neg]
          · have hv : digV 0 r = some (u : Int) := hv
            rw [hv]; rfl
          · rintro (h | h | ⟨h,h'⟩)
            · rw [h5] at h; simp at h
            · omega
            · rw [h5,at8_cons] at h
              have := h6 (by omega)
              omega
    · have h45 : b.toNat ≠ 45 := fun e => hb (UInt8.toNat_inj.1 e)
      have hR : numR d (b :: r) = numB d (b :: r) := by
        unfold numR
        cases numB d (b :: r) with
        | none => rfl
        | some m => simp only; rw [if_pos (by rw [at8_cons]; omega)]
      rw [← hR,numR_iff hd,trimM_plain hb]
      constructor
      · rintro ⟨_,h⟩; exact h
      · rintro ⟨h1,h2⟩
        refine ⟨?_,h1,h2⟩
        by_cases hn : 0 ≤ n
        · exact hn
        · exfalso
          obtain ⟨u,rfl⟩ : ∃ u : Nat,n = -(u : Int) := ⟨n.natAbs,by omega⟩
          rw [itoa_neg (by omega)] at h1
          exact hb (List.cons.inj h1).1.symm
theorem numSB {d : Int} {l : List UInt8} (hd : d ≤ 18) : numS d l = numB d l := by
  apply Option.ext
  intro n
  rw [numS_iff,numB_iff hd]
  constructor
  · rintro ⟨_,_,h2,h3⟩; exact ⟨h2,h3⟩
  · rintro ⟨h2,h3⟩
    have hb : ∀ u : Nat,(Lib.decDigits u).length ≤ 18 → u < 1000000000000000000 := fun u hu => by
      have hlt := Lib.lt_pow_nDigits u
      rw [← Lib.decDigits_length] at hlt
      have : (10 : Nat) ^ (Lib.decDigits u).length ≤ 10 ^ 18 := Nat.pow_le_pow_right (by decide) hu
      have h18 : (10 : Nat) ^ 18 = 1000000000000000000 := by decide
      omega
    by_cases hn : 0 ≤ n
    · obtain ⟨u,rfl⟩ : ∃ u : Nat,n = u := ⟨n.toNat,by omega⟩
      have h2' := h2
      rw [itoa_nat] at h2'
      obtain ⟨h4,_,b,r,h6,_⟩ := dec_all u
      have hb45 : b ≠ 45 := fun e => by
        have := h4 b (by rw [h6]; simp)
        rw [e] at this
        have e45 : (45 : UInt8).toNat = 45 := rfl
        omega
      have ht : trimM l = Lib.decDigits u := by rw [← h2',h6,trimM_plain hb45]
      have := hb u (by rw [← ht]; omega)
      exact ⟨by omega,by omega,h2,h3⟩
    · obtain ⟨u,rfl⟩ : ∃ u : Nat,n = -(u : Int) := ⟨n.natAbs,by omega⟩
      have h2' := h2
      rw [itoa_neg (by omega)] at h2'
      have ht : trimM l = Lib.decDigits u := by rw [← h2',trimM_minus]
      have := hb u (by rw [← ht]; omega)
      exact ⟨by omega,by omega,h2,h3⟩
end Go.Lq

namespace Go.Lq
open Go
open Go.Proofs
theorem cutL_none {c : UInt8} {a : List UInt8} (h : c ∉ a) : cutL c a = [a] := by
  induction a with
  | nil => rfl
  | cons b r ih =>
    have hb : b ≠ c := fun e => h (by rw [e]; exact List.mem_cons_self ..)
    have hr : c ∉ r := fun e => h (List.mem_cons_of_mem _ e)
    rw [cutL,if_neg hb,ih hr]
theorem cutL_join {c : UInt8} {a : List UInt8} (h : c ∉ a) (r : List UInt8) : cutL c (a ++ c :: r) = a :: cutL c r := by
  induction a with
  | nil => show cutL c (c :: r) = _; rw [cutL,if_pos rfl]
  | cons b s ih =>
    have hb : b ≠ c := fun e => h (by rw [e]; exact List.mem_cons_self ..)
    have hs : c ∉ s := fun e => h (List.mem_cons_of_mem _ e)
    show cutL c (b :: (s ++ c :: r)) = _
    rw [cutL,if_neg hb,ih hs]
theorem itoa_digits {n : Int} (h : 0 ≤ n) {c : UInt8} (hc : c.toNat < 48) : c ∉ Lib.itoa n := fun hm => by
  obtain ⟨u,rfl⟩ : ∃ u : Nat,n = u := ⟨n.toNat,by omega⟩
  rw [itoa_nat] at hm
  have := (dec_all u).1 c hm
  omega
theorem nDigits_le : ∀ (k u : Nat),1 ≤ k → u < 10 ^ k → Lib.nDigits u ≤ k
  | 0,u,h,_ => by omega
  | k + 1,u,_,h => by
    by_cases hu : u < 10
    · rw [Lib.nDigits_small hu]; omega
    · rw [Lib.nDigits_big hu]
      have hk : 1 ≤ k := by
        rcases Nat.eq_zero_or_pos k with rfl | hk
        · simp at h; omega
        · exact hk
      have := nDigits_le k (u / 10) hk (by rw [Nat.pow_succ] at h; omega)
      omega
end Go.Lq

namespace Go.Lq
open Go
def wordsT (l : List Int) : List (List UInt8) := l.map Lib.itoa
def pathT (l : List Int) : List UInt8 := Lib.join (wordsT l) [32]
def InW (l : List Int) : Prop := ∀ n ∈ l,i64 n
theorem itoa_len {n : Int} (h : i64 n) : (Lib.itoa n).length ≤ 21 := Lib.itoa_length_le n h.1 h.2
theorem pathTail_length {l : List Int} (h : InW l) : (Lib.joinTail [32] (wordsT l)).length ≤ 22 * l.length := by
  induction l with
  | nil => simp [wordsT,Lib.joinTail]
  | cons p r ih =>
    have hp := itoa_len (h p (List.mem_cons_self ..))
    have hr := ih fun q hq => h q (List.mem_cons_of_mem _ hq)
    have e : Lib.joinTail [32] (wordsT (p :: r)) = [32] ++ Lib.itoa p ++ Lib.joinTail [32] (wordsT r) := by simp [Lib.joinTail,wordsT]
    rw [e]
    simp only [List.length_append,List.length_cons,List.length_nil]
    omega
theorem pathT_length {l : List Int} (h : InW l) : (pathT l).length ≤ 22 * l.length := by
  cases l with
  | nil => simp [pathT,wordsT,Lib.join_nil]
  | cons p r =>
    have hp := itoa_len (h p (List.mem_cons_self ..))
    have hr := pathTail_length (l := r) fun q hq => h q (List.mem_cons_of_mem _ hq)
    have e : pathT (p :: r) = Lib.itoa p ++ Lib.joinTail [32] (wordsT r) := by
      unfold pathT
      show Lib.join (Lib.itoa p :: wordsT r) [32] = _
      rw [Lib.join_cons]
    rw [e]
    simp only [List.length_append,List.length_cons]
    omega
theorem InW.take {l : List Int} (h : InW l) (i : Nat) : InW (l.take i) := fun p hp => h p (List.mem_of_mem_take hp)
theorem InW.get {l : List Int} (h : InW l) {i : Nat} (hi : i < l.length) : i64 (l.getD i 0) := by
  have : l.getD i 0 ∈ l := by rw [List.getD_eq_getElem?_getD,List.getElem?_eq_getElem hi]; exact List.getElem_mem _
  exact h _ this
theorem wordsT_take {l : List Int} {i : Nat} (hi : i < l.length) : wordsT (l.take (i + 1)) = wordsT (l.take i) ++ [Lib.itoa (l.getD i 0)] := by
  unfold wordsT
  rw [List.take_succ_eq_append_getElem hi,List.map_append]
  simp [List.getD,hi]
theorem pathT_snoc {l : List Int} {i : Nat} (hi : i < l.length) : pathT (l.take (i + 1)) = pathT (l.take i) ++ (if 0 < i then [32] else []) ++ Lib.itoa (l.getD i 0) := by
  unfold pathT
  rw [wordsT_take hi]
  cases i with
  | zero => simp [wordsT,Lib.join_nil,Lib.join_one]
  | succ k =>
    have hne : ∃ p r,l.take (k + 1) = p :: r := by
      match l,hi with
      | p :: r,_ => exact ⟨p,r.take k,rfl⟩
    obtain ⟨p,r,e⟩ := hne
    rw [e]
    show Lib.join (Lib.itoa p :: (wordsT r ++ [_])) [32] = Lib.join (Lib.itoa p :: wordsT r) [32] ++ _ ++ _
    rw [Lib.join_cons,Lib.join_cons]
    simp [Lib.joinTail,List.append_assoc]
theorem itoa_blank (n : Int) {c : UInt8} (hc : c.toNat < 45) : c ∉ Lib.itoa n := by
  by_cases hn : 0 ≤ n
  · exact itoa_digits hn (by omega)
  · obtain ⟨u,rfl⟩ : ∃ u : Nat,n = -(u : Int) := ⟨n.natAbs,by omega⟩
    rw [itoa_neg (by omega)]
    intro h
    rcases List.mem_cons.1 h with rfl | h
    · exact absurd hc (by decide)
    · have := (dec_all u).1 c h; omega
theorem cut_path : ∀ (l : List Int),l ≠ [] → cutL 32 (pathT l) = wordsT l
  | [],h => absurd rfl h
  | [p],_ => by
    show cutL 32 (Lib.join [Lib.itoa p] [32]) = [Lib.itoa p]
    rw [Lib.join_one,cutL_none (itoa_blank p (by decide))]
  | p :: q :: r,_ => by
    have ih := cut_path (q :: r) (by simp)
    have e : pathT (p :: q :: r) = Lib.itoa p ++ 32 :: pathT (q :: r) := by
      unfold pathT
      show Lib.join (Lib.itoa p :: Lib.itoa q :: wordsT r) [32] = _ ++ 32 :: Lib.join (Lib.itoa q :: wordsT r) [32]
      rw [Lib.join_cons,Lib.join_cons]
      simp [Lib.joinTail]
    rw [e,cutL_join (itoa_blank p (by decide)),ih]
    rfl
def numsS (d : Int) : List (List UInt8) → Option (List Int)
  | [] => some []
  | w :: ws => match numS d w with | some n => (numsS d ws).map (n :: ·) | none => none
theorem numsS_cons {d : Int} {w : List UInt8} {ws : List (List UInt8)} {n : Int} (h : numS d w = some n) : numsS d (w :: ws) = (numsS d ws).map (n :: ·) := by
  rw [numsS,h]
  first | done | rfl
theorem numsS_none {d : Int} {w : List UInt8} {ws : List (List UInt8)} (h : numS d w = none) : numsS d (w :: ws) = none := by
  rw [numsS,h]
  first | done | rfl
theorem trimM_itoa_le {n : Int} {k : Nat} (hk : 1 ≤ k) (h0 : -(10 ^ k : Nat) < n) (h1 : n < (10 ^ k : Nat)) : (trimM (Lib.itoa n)).length ≤ k := by
  by_cases hn : 0 ≤ n
  · obtain ⟨u,rfl⟩ : ∃ u : Nat,n = u := ⟨n.toNat,by omega⟩
    obtain ⟨h4,_,b,r,h6,_⟩ := dec_all u
    have hb45 : b ≠ 45 := fun e => by
      have := h4 b (by rw [h6]; simp)
      rw [e] at this
      have e45 : (45 : UInt8).toNat = 45 := rfl
      omega
    rw [itoa_nat,h6,trimM_plain hb45,← h6,Lib.decDigits_length]
    exact nDigits_le k u hk (by exact_mod_cast h1)
  · obtain ⟨u,rfl⟩ : ∃ u : Nat,n = -(u : Int) := ⟨n.natAbs,by omega⟩
    rw [itoa_neg (by omega),trimM_minus,Lib.decDigits_length]
    exact nDigits_le k u hk (by omega)
theorem numS_itoa {d k : Nat} {n : Int} (hk : 1 ≤ k) (hkd : k ≤ d) (h0 : -(10 ^ k : Nat) < n) (h1 : n < (10 ^ k : Nat)) (h2 : i64 n) : numS d (Lib.itoa n) = some n := by
  rw [numS_iff]
  have := trimM_itoa_le hk h0 h1
  exact ⟨h2.1,h2.2,rfl,by omega⟩
theorem nums_back {d k : Nat} (hk : 1 ≤ k) (hkd : k ≤ d) : ∀ (l : List Int),(∀ n ∈ l,-((10 ^ k : Nat) : Int) < n ∧ n < ((10 ^ k : Nat) : Int) ∧ i64 n) → numsS d (wordsT l) = some l
  | [],_ => rfl
  | p :: r,h => by
    have hp := h p (by simp)
    show numsS d (Lib.itoa p :: wordsT r) = _
    rw [numsS_cons (numS_itoa hk hkd hp.1 hp.2.1 hp.2.2),nums_back hk hkd r fun x hx => h x (List.mem_cons_of_mem _ hx)]
    rfl
end Go.Lq

namespace Go.Lq
open Go
open Go.Proofs
section
variable {H : AHeap} {l : List Int} {v : Value}
theorem trimM_eq (l : List UInt8) : Lib.trimPrefix l [45] = trimM l := by
  match l with
  | [] => rfl
  | b :: r =>
    unfold Lib.trimPrefix Lib.hasPrefix
    by_cases hb : b = 45
    · subst hb; simp [trimM,List.isPrefixOf]
    · rw [trimM_plain hb,if_neg]
      simp [List.isPrefixOf]
      exact fun h => hb h.symm
theorem trim_c {l : List UInt8} : ACall Go.Proofs.Tryz.prog 56 [.string (bs l),.string (bs [45])] H fun v H' => v = .string (bs (trimM l)) ∧ H' = H := by
  refine ACall.of_calls ⟨_,Go.Proofs.Tryz.func56,by kernel_rfl,by kernel_rfl⟩ fun base β w cargs hi hv => ?_
  obtain ⟨y,y',e,h,h'⟩ := VRs.two hv
  obtain rfl := h.str
  obtain rfl := h'.str
  rw [cargs2 e]
  refine (Go.Proofs.Tryz.strings_TrimPrefix (bs l) (bs [45]) w).mono fun e' w' ⟨he,hw⟩ => ?_
  subst hw
  rw [bs_data,bs_data,trimM_eq,bs_mk] at he
  exact ⟨_,_,he,.string _,⟨rfl,rfl⟩,RowKit.Below.refl _ _⟩
set_option maxHeartbeats 1000000 in
theorem formatPath_c (hs : StrH H) (hl : Ints H l v) (hn : l.length ≤ 100000) (hb : InW l) : ACall Go.Proofs.Tryz.prog 24 [v] H fun w H' => w = .string (bs (pathT l)) ∧ H' = H := by
  refine ACall.drop (.string _) ?_
  (refine a24 ?_; simp only [n24,List.replicate,List.length_cons,List.length_nil,List.cons_append,List.nil_append]; first | refine Go.Lq.q1 ?_ | refine Go.Lq.q2 ?_ | refine Go.Lq.q6 ?_ | refine Go.Lq.q7 ?_ | refine Go.Lq.qh rfl ?_ | skip)
  (repeat(first|refine yw ?_|((first|apply yd|apply ye);simp (disch:=first|exact zz|fail) only[go_sem,hl.len,hl.idx,hl.load];with_reducible rfl)))
  refine awp_loop_n [false,false,false,true,false,false,true,true,true,false,false,false,false,false,false,false,false,false,false,false] l.length (fun i e H' => ∃ w,e = [junk,junk,junk,w,junk,junk,v,.int .i64 (l.length : Nat),.int .i64 (i : Nat),junk,junk,junk,junk,junk,junk,junk,junk,junk,junk,junk] ∧ Ext H H' ∧ OwnS H H' (wordsT (l.take i)) w) ?_ ?_
  · exact ⟨.slice none 0 0,by simp [forget],Ext.refl _,by simp only [List.take_zero]; exact OwnS.nil _ _⟩
  rintro i e H' hi ⟨w,rfl,x1,ho⟩
  have hli := hl.ext x1
  (refine yg ?_)
  refine cond_p rfl (fun hlt => ?_) (fun hge => ?_)
  rotate_left 1
  · obtain rfl : i = l.length := by omega
    rw [List.take_length] at ho
    (refine yg ?_)
    have hml := pathT_length hb
    (refine aops_call_to (join_c (ll := wordsT l) (m := [32]) ho.txts (by simp [wordsT]; omega) (by show (pathT l).length ≤ _; omega)) ?_)
    (refine yg ?_)
    exact fin_1 ⟨rfl,x1⟩
  have hi' : i < l.length := by omega
  have e1 : (i : Int) + 1 = ((i + 1 : Nat) : Int) := by omega
  obtain ⟨b1,b2⟩ := hb.get hi'
  obtain ⟨p,hp⟩ : ∃ p,p = l.getD i 0 := ⟨_,rfl⟩
  rw [← hp] at b1 b2
  have q1' := Lib.itoa_length_le _ b1 b2
  have hsn : StrH H' := hs.ext x1
  (repeat(first|refine yw ?_|((first|apply yd|apply ye);simp (disch:=first|exact zz|fail) only[go_sem,hli.len,hli.idx,hli.load,← hp];with_reducible rfl)))
  (refine aops_call_to (itoa_c hsn b1 b2) ?_)
  have hlen : (wordsT (l.take i)).length = i := by simp [wordsT]; omega
  (repeat(first|refine yw ?_|((first|apply yd|apply ye);simp (disch:=first|exact zz|fail) only[go_sem,ho.push,e1];with_reducible rfl)))
  refine ⟨by omega,pushV H' (wordsT (l.take i)).length,by simp [forget],ho.ext x1 _,?_⟩
  rw [wordsT_take hi',← hp]
  exact ho.pushed x1 (Lib.itoa p)
end
end Go.Lq

namespace Go.Lq
open Go
open Go.Proofs
def parsePathL (l : List UInt8) : List Int × Int :=
  if (60000 : Int) < (l.length : Int) then ([],8) else if l = [] then ([],0) else
  match numsS 7 (cutL 32 l) with
  | none => ([],7)
  | some ns => if positionsErrL ns = 0 then (ns,0) else ([],positionsErrL ns)
theorem parse_path {l : List Int} (h : positionsErrL l = 0) : parsePathL (pathT l) = (l,0) := by
  obtain ⟨hs,hn⟩ := sized_pos h
  have hm : ∀ n ∈ l,-1000000 ≤ n ∧ n ≤ 1000000 := fun n hn => by
    obtain ⟨i,hi,e⟩ := List.getElem_of_mem hn
    have := hs i
    rw [List.getD_eq_getElem?_getD,List.getElem?_eq_getElem hi,e] at this
    exact this
  have hw : InW l := fun n hn => by have := hm n hn; exact ⟨by omega,by omega⟩
  have hlen := pathT_length hw
  unfold parsePathL
  rw [if_neg (by omega)]
  cases l with
  | nil => rw [if_pos (by rfl)]
  | cons a r =>
    have hne : pathT (a :: r) ≠ [] := fun e => by
      have h1 := cut_path (a :: r) (by simp)
      rw [e] at h1
      have h2 : cutL 32 [] = [[]] := rfl
      rw [h2] at h1
      have h3 : Lib.itoa a = [] := by simpa [wordsT] using (List.cons.inj h1).1.symm
      have h4 := numS_itoa (d := 7) (k := 7) (by decide) (by decide) (n := a) (by have := hm a (by simp); have : ((10 ^ 7 : Nat) : Int) = 10000000 := by decide
                                                                                  omega) (by have := hm a (by simp); have : ((10 ^ 7 : Nat) : Int) = 10000000 := by decide
                                                                                             omega) (hw a (by simp))
      rw [h3] at h4
      cases h4
    rw [if_neg hne,cut_path _ (by simp),show (7 : Int) = ((7 : Nat) : Int) from rfl,nums_back (k := 7) (by decide) (by decide) _ fun n hn => by
      have h7 : ((10 ^ 7 : Nat) : Int) = 10000000 := by decide
      have := hm n hn
      exact ⟨by omega,by omega,hw n hn⟩]
    show (if positionsErrL (a :: r) = 0 then (a :: r,0) else _) = _
    rw [if_pos h]
theorem OwnI.lt {H0 H1 H : AHeap} {l : List Int} {v : Value} (h : OwnI H0 H l v) (hx : H1.length ≤ H0.length) : OwnI H1 H l v := Own.weaken h hx
section
variable {H : AHeap}
end
end Go.Lq

namespace Go.Lq
open Go
open Go.Proofs
theorem index_lt {c : UInt8} (r : List UInt8) (h : 0 ≤ Lib.index r [c]) : Lib.index r [c] < r.length := by
  induction r with
  | nil => simp [Lib.index] at h
  | cons b s ih =>
    by_cases hb : b = c
    · subst hb; rw [index_eq]; simp
    · rw [index_ne hb] at h ⊢
      by_cases hm : Lib.index s [c] = -1
      · rw [if_pos hm] at h; omega
      · rw [if_neg hm] at h ⊢
        have hg := Lib.index_ge s [c]
        have := ih (by omega)
        simp; omega
def pieces (r : List UInt8) : List (List Value) := (cutL 32 r).map fun w => [.string (bs w)]
theorem pieces_no {r : List UInt8} (h : Lib.index r [32] < 0) : pieces r = [[.string (bs r)]] := by
  unfold pieces
  rw [cut_cutL,if_neg (by unfold Lib.cut; rw [if_neg (by omega)]; simp)]
  rfl
theorem pieces_yes {r : List UInt8} (h : 0 ≤ Lib.index r [32]) : pieces r = [.string (bs (r.take (Lib.index r [32]).toNat))] :: pieces (r.drop ((Lib.index r [32]).toNat + 1)) := by
  unfold pieces
  rw [cut_cutL,if_pos (by unfold Lib.cut; rw [if_pos h])]
  unfold Lib.cut
  rw [if_pos h]
  rfl
theorem store_s1 {J : AHeap} {b : Nat} {x : Value} {s : ByteArray} (h : J[b]? = some (.cells true 0 [x])) : storeR 1 (.pointer (some ⟨b,0,none⟩)) (.string s) J = some (undef,J.set b (.cells true 0 [.string s])) := by
  have ec : (Value.string s).cells.toList = [.string s] := rfl
  have ec2 : (Value.string s).cells.size = 1 := rfl
  have ec4 : ([Value.string s].all isAtom) = true := rfl
  have ec5 : setCells [x] 0 [.string s] = [.string s] := rfl
  simp only [storeR,ec,ec2,if_true,storeAt,h,List.length_cons,List.length_nil,Nat.zero_add,Nat.le_refl,ec4,and_self,Option.map_some,ec5]
def SeqFact (a c : Nat) (H : AHeap) : Prop := StrH H ∧ H[a]? = some (.cells true 0 [.string (bs [32])]) ∧ H[c]? = some (.cells true 0 [.int .i64 0])
section
variable {H : AHeap}
set_option maxHeartbeats 1000000 in
theorem splitSeq1_c {a b c : Nat} {l : List UInt8} (hl : l.length ≤ 100000) :
    GenC Go.Proofs.Tryz.prog 86 [] [.pointer (some ⟨a,0,none⟩),.pointer (some ⟨b,0,none⟩),.pointer (some ⟨c,0,none⟩)] b (.cells true 0 [.string (bs l)]) (SeqFact a c) (pieces l) := by
  intro y I S H0 hF hset hround hk hI0
  show ACall _ _ [.func (.yield y) #[] #[],.pointer (some ⟨a,0,none⟩),.pointer (some ⟨b,0,none⟩),.pointer (some ⟨c,0,none⟩)] _ _
  obtain ⟨fs,fa,fc⟩ := hF _ _ hI0
  have ha0 : loadR (.pointer (some ⟨a,0,none⟩)) H0 = some (.string (bs [32]),H0) := by rw [load_at fa]; rfl
  (refine a86 ?_; simp only [n86,List.replicate,yq,yr,yt,yu]; first | refine q1 ?_ | refine q2 ?_ | refine q6 ?_ | refine q7 ?_ | refine qh rfl ?_ | skip)
  (repeat(first|refine yw ?_|((first|apply yd|apply ye);simp (disch:=first|exact zz|fail) only[go_sem,ha0,List.length_cons,List.length_nil];with_reducible rfl)))
  refine cond_f rfl ?_
  (refine yg ?_)
  refine awp_loop [true,true,true,true,false,false,false,false,false,false,false,false,false,false,false,false,false,false,false,false,false,false,false,false,false,false,false,false,false,false,false,false,false,false,false,false,false,false,false,false,false,false,false,false,false,false,false,false,false,false,false,false] (fun k e H' => e = [.func (.yield y) #[] #[],.pointer (some ⟨a,0,none⟩),.pointer (some ⟨b,0,none⟩),.pointer (some ⟨c,0,none⟩),junk,junk,junk,junk,junk,junk,junk,junk,junk,junk,junk,junk,junk,junk,junk,junk,junk,junk,junk,junk,junk,junk,junk,junk,junk,junk,junk,junk,junk,junk,junk,junk,junk,junk,junk,junk,junk,junk,junk,junk,junk,junk,junk,junk,junk,junk,junk,junk] ∧ ∃ r,k = r.length ∧ r.length ≤ l.length ∧
      H'[b]? = some (.cells true 0 [.string (bs r)]) ∧ I (pieces r) H') l.length ?_ ?_
  · exact ⟨by simp [forget],l,rfl,Nat.le_refl _,hk,hI0⟩
  rintro k e H1 ⟨rfl,r,rfl,hrl,hb,hI⟩
  obtain ⟨fs,fa,fc⟩ := hF _ _ hI
  have ha : loadR (.pointer (some ⟨a,0,none⟩)) H1 = some (.string (bs [32]),H1) := by rw [load_at fa]; rfl
  have hb0 : loadR (.pointer (some ⟨b,0,none⟩)) H1 = some (.string (bs r),H1) := by rw [load_at hb]; rfl
  have hc0 : loadR (.pointer (some ⟨c,0,none⟩)) H1 = some (.int .i64 0,H1) := by rw [load_at fc]; rfl
  (repeat(first|refine yw ?_|((first|apply yd|apply ye);simp (disch:=first|exact zz|fail) only[go_sem,ha,hb0];with_reducible rfl)))
  (refine aops_call_to (index_c fs (l := r) (m := [32]) (by omega)) ?_)
  have hge := Lib.index_ge r [32]
  by_cases hneg : Lib.index r [32] < 0
  · rw [pieces_no hneg] at hI
    (repeat(first|refine yw ?_|((first|apply yd|apply ye);simp (disch:=first|exact zz|fail) only[go_sem,dec_t hneg];with_reducible rfl)))
    refine cond_t rfl ?_
    (repeat(first|refine yw ?_|((first|apply yd|apply ye);simp (disch:=first|exact zz|fail) only[go_sem,hb0];with_reducible rfl)))
    refine aops_call ((hround _ _ _ hI).mono fun v1 H3 h => ?_)
    rcases h with ⟨rfl,hI3,_⟩ | ⟨rfl,hS⟩
    · (refine yg ?_)
      exact ⟨.inl rfl,undef,rfl,.inl hI3⟩
    · (refine yg ?_)
      exact ⟨.inl rfl,undef,rfl,.inr hS⟩
  have h0 : 0 ≤ Lib.index r [32] := by omega
  have hlt := index_lt r h0
  rw [pieces_yes h0] at hI
  obtain ⟨n,hn⟩ : ∃ n,n = (Lib.index r [32]).toNat := ⟨_,rfl⟩
  have hn' : Lib.index r [32] = (n : Int) := by omega
  rw [hn',Int.toNat_natCast] at hI
  rw [hn'] at hneg hlt ⊢
  have hnl : n < r.length := by omega
  (repeat(first|refine yw ?_|((first|apply yd|apply ye);simp (disch:=first|exact zz|fail) only[go_sem,dec_f hneg,hb0,hc0];with_reducible rfl)))
  refine cond_f rfl ?_
  (repeat(first|refine yw ?_|((first|apply yd|apply ye);simp (disch:=first|exact zz|fail) only[go_sem,hb0,hc0];with_reducible rfl)))
  have e0 : (n : Int) + 0 = (n : Int) := by omega
  refine aops_call ((hround _ _ _ hI).mono fun v1 H3 h => ?_)
  rcases h with ⟨rfl,hI3,hb3⟩ | ⟨rfl,hS⟩
  · obtain ⟨fs3,fa3,fc3⟩ := hF _ _ hI3
    have hb3' : H3[b]? = some (.cells true 0 [.string (bs r)]) := hb3.trans hb
    have ha3 : loadR (.pointer (some ⟨a,0,none⟩)) H3 = some (.string (bs [32]),H3) := by rw [load_at fa3]; rfl
    have hb30 : loadR (.pointer (some ⟨b,0,none⟩)) H3 = some (.string (bs r),H3) := by rw [load_at hb3']; rfl
    have e1 : ((n : Int) + ((0 + 1 : Nat) : Int)) = ((n + 1 : Nat) : Int) := by omega
    (refine yg ?_)
    refine cond_f rfl ?_
    (repeat(first|refine yw ?_|((first|apply yd|apply ye);simp (disch:=first|exact zz|fail) only[go_sem,hb30,ha3,List.length_cons,List.length_nil,e1,store_s1 hb3'];with_reducible rfl)))
    refine ⟨_,?_,rfl,r.drop (n + 1),rfl,by rw [List.length_drop]; omega,get_set_self hb3',hset _ _ _ hI3⟩
    rw [List.length_drop]; omega
  · (refine yg ?_)
    refine cond_t rfl ?_
    (refine yg ?_)
    exact ⟨.inr rfl,undef,rfl,.inr hS⟩
end
end Go.Lq

namespace Go.Lq
open Go
open Go.Proofs
theorem Own.set_lt {H0 H : AHeap} {sz n : Nat} {vs : List Value} {v : Value} (h : Own H0 H sz n vs v) {j : Nat} (hj : j < H0.length) (c : AObj) : Own H0 (H.set j c) sz n vs v :=
  ⟨h.1,h.2.imp_right fun ⟨id,e,h1,h2,hc⟩ => ⟨id,e,h1,h2,by rw [List.getElem?_set_ne (by omega)]; exact hc⟩⟩
section
variable {H : AHeap}
theorem box_str {s : ByteArray} {H : AHeap} : boxR (.string s) H = some (.pointer (some ⟨H.length,0,none⟩),H ++ [.cells true 0 [.string s]]) := rfl
theorem box_i0 {n : Int} {H : AHeap} : boxR (.int .i64 n) H = some (.pointer (some ⟨H.length,0,none⟩),H ++ [.cells true 0 [.int .i64 n]]) := rfl
theorem splitSeq_c {l : List UInt8} : ACall Go.Proofs.Tryz.prog 53 [.string (bs l),.string (bs [32])] H fun v H' =>
    v = .func (.func 86) ⟨[]⟩ ⟨[.pointer (some ⟨H.length + 1,0,none⟩),.pointer (some ⟨H.length,0,none⟩),.pointer (some ⟨H.length + 2,0,none⟩)]⟩ ∧
      H' = H ++ [.cells true 0 [.string (bs l)],.cells true 0 [.string (bs [32])],.cells true 0 [.int .i64 0]] := by
  have inner : ACall Go.Proofs.Tryz.prog 72 [.string (bs l),.string (bs [32]),.int .i64 0] H fun v H' =>
    v = .func (.func 86) ⟨[]⟩ ⟨[.pointer (some ⟨H.length + 1,0,none⟩),.pointer (some ⟨H.length,0,none⟩),.pointer (some ⟨H.length + 2,0,none⟩)]⟩ ∧
      H' = H ++ [.cells true 0 [.string (bs l)],.cells true 0 [.string (bs [32])],.cells true 0 [.int .i64 0]] := by
    (refine a72 ?_; simp only [n72,List.replicate,yq,yr,yt,yu]; first | refine q1 ?_ | refine q2 ?_ | refine q6 ?_ | refine q7 ?_ | refine qh rfl ?_ | skip)
    (repeat(first|refine yw ?_|((first|apply yd|apply ye);simp (disch:=first|exact zz|fail) only[go_sem,box_str,box_i0];with_reducible rfl)))
    refine fin_1 ⟨?_,by simp⟩
    simp
  (refine a53 ?_; simp only [n53,List.replicate,yq,yr,yt,yu]; first | refine q1 ?_ | refine q2 ?_ | refine q6 ?_ | refine q7 ?_ | refine qh rfl ?_ | skip)
  (refine yg ?_)
  refine aops_call_to inner ?_
  (refine yg ?_)
  exact fin_1 ⟨rfl,rfl⟩
end
end Go.Lq

namespace Go.Lq
open Go
open Go.Proofs
theorem fin_LL {c : RCode} {n a b : Nat} {R : Value → AHeap → Prop} {e : Env} {H : AHeap} {u w : Value} (h1 : loadR (e.getD a undef) H = some (u,H)) (h2 : loadR (e.getD b undef) H = some (w,H)) (h : R (.tuple #[u,w]) H) :
    Fin ⟨c,n,[.load a,.load b]⟩ R .ret e H := by
  refine ⟨.inr rfl,_,?_,h⟩
  unfold loadR at h1 h2
  split at h1
  · rename_i id off hp
    simp only [Option.map_eq_some_iff,Prod.mk.injEq,and_true] at h1
    obtain ⟨us,h3,rfl⟩ := h1
    split at h2
    · rename_i id' off' hp'
      simp only [Option.map_eq_some_iff,Prod.mk.injEq,and_true] at h2
      obtain ⟨us',h4,rfl⟩ := h2
      simp only [resultA,List.mapM_cons,resA,hp,h3,hp',h4,Option.map_some,List.mapM_nil]
      rfl
    · cases h2
  · cases h1
theorem ld_1 {G : AHeap} {id : Nat} {a : Value} (h : G[id]? = some (.cells true 0 [a])) : loadR (.pointer (some ⟨id,0,none⟩)) G = some (a,G) := by rw [load_at h]; rfl
theorem st_i1 {J : AHeap} {b : Nat} {x : Value} {n : Int} (h : J[b]? = some (.cells true 0 [x])) : storeR 1 (.pointer (some ⟨b,0,none⟩)) (.int .i64 n) J = some (undef,J.set b (.cells true 0 [.int .i64 n])) := by
  have ec : (Value.int .i64 n).cells.toList = [.int .i64 n] := rfl
  have ec2 : (Value.int .i64 n).cells.size = 1 := rfl
  have ec4 : ([Value.int .i64 n].all isAtom) = true := rfl
  have ec5 : setCells [x] 0 [.int .i64 n] = [.int .i64 n] := rfl
  simp only [storeR,ec,ec2,if_true,storeAt,h,List.length_cons,List.length_nil,Nat.zero_add,Nat.le_refl,ec4,and_self,Option.map_some,ec5]
theorem st_l1 {J : AHeap} {b : Nat} {x : Value} {a : Option Addr} {n c : Nat} (h : J[b]? = some (.cells true 0 [x])) : storeR 1 (.pointer (some ⟨b,0,none⟩)) (.slice a n c) J = some (undef,J.set b (.cells true 0 [.slice a n c])) := by
  have ec : (Value.slice a n c).cells.toList = [.slice a n c] := rfl
  have ec2 : (Value.slice a n c).cells.size = 1 := rfl
  have ec4 : ([Value.slice a n c].all isAtom) = true := rfl
  have ec5 : setCells [x] 0 [.slice a n c] = [.slice a n c] := rfl
  simp only [storeR,ec,ec2,if_true,storeAt,h,List.length_cons,List.length_nil,Nat.zero_add,Nat.le_refl,ec4,and_self,Option.map_some,ec5]
theorem OwnI.set_lt {H0 H : AHeap} {l : List Int} {v : Value} (h : OwnI H0 H l v) {j : Nat} (hj : j < H0.length) (c : AObj) : OwnI H0 (H.set j c) l v := Own.set_lt h hj c
def KeepB (a b : Nat) (G H : AHeap) : Prop := G.length ≤ H.length ∧ ∀ i,i < G.length → i ≠ a → i ≠ b → H[i]? = G[i]?
theorem KeepB.get {a b : Nat} {G H : AHeap} (h : KeepB a b G H) {i : Nat} {c : AObj} (hi : G[i]? = some c) (ha : i ≠ a) (hb : i ≠ b) : H[i]? = some c := by
  rw [h.2 i (List.getElem?_eq_some_iff.1 hi).1 ha hb]; exact hi
theorem KeepB.set {a b j : Nat} {G H : AHeap} (h : KeepB a b G H) (hj : j = a ∨ j = b ∨ G.length ≤ j) (c : AObj) : KeepB a b G (H.set j c) :=
  ⟨by simpa using h.1,fun i hi h1 h2 => by rw [List.getElem?_set_ne (by omega)]; exact h.2 i hi h1 h2⟩
theorem KeepB.ext {a b : Nat} {H0 G H : AHeap} (h : KeepB a b G H) (hx : Ext H0 G) (ha : H0.length ≤ a) (hb : H0.length ≤ b) : Ext H0 H :=
  ext_of_get (by have := hx.len; have := h.1; omega) fun i hi => by rw [h.2 i (by have := hx.len; omega) (by omega) (by omega)]; exact hx.get hi
theorem KeepB.push {a b : Nat} {G H : AHeap} (h : KeepB a b G H) {B : AHeap} {ns : List Int} {v : Value} (ho : OwnI B H ns v) (hB : G.length ≤ B.length) (x : Int) : KeepB a b G (pushH H v ns x) := by
  unfold pushH appH
  rcases ho.2 with ⟨rfl,_⟩ | ⟨id,rfl,h1,_,_⟩
  · exact ⟨by have := h.1; simp; omega,fun i hi e1 e2 => by
      have := h.1
      rw [List.getElem?_append_left (by simp; omega),List.getElem?_append_left (by omega)]
      exact h.2 i hi e1 e2⟩
  · exact ⟨by have := h.1; simp; omega,fun i hi e1 e2 => by
      have := h.1
      rw [List.getElem?_append_left (by simp; omega),List.getElem?_set_ne (by show id ≠ i; omega),List.getElem?_append_left (by omega)]
      exact h.2 i hi e1 e2⟩
theorem pushI_get {H : AHeap} {B : AHeap} {ns : List Int} {v : Value} (ho : OwnI B H ns v) {i : Nat} (hi : i < B.length) (hl : i < H.length) (x : Int) : (pushH H v ns x)[i]? = H[i]? := by
  unfold pushH appH
  rcases ho.2 with ⟨rfl,_⟩ | ⟨id,rfl,h1,_,_⟩
  · rw [List.getElem?_append_left (by simp; omega),List.getElem?_append_left hl]
  · rw [List.getElem?_append_left (by simp; omega),List.getElem?_set_ne (by show id ≠ i; omega),List.getElem?_append_left hl]
theorem OwnI.pushed2 {H0 H : AHeap} {l : List Int} {v : Value} (h : OwnI H0 H l v) (hx : H0.length ≤ H.length) (x : Int) : OwnI H0 (pushH H v l x) (l ++ [x]) (pushV H l.length) := by
  have := Own.appended (h.app [.cells true 1 [.int .i64 x]]) (m := 1) (cs := [.int .i64 x]) rfl (by omega) (by simp; omega)
  unfold OwnI
  simpa [pushV,pushH] using this
def LeftP (l : List UInt8) (i4 k : Nat) (G : AHeap) (rest : List (List Value)) (H : AHeap) : Prop :=
  ∃ (ws : List (List UInt8)) (ns : List Int) (v : Value),rest = ws.map (fun w => [Value.string (bs w)]) ∧ numsS 7 (cutL 32 l) = (numsS 7 ws).map (ns ++ ·) ∧ (∀ w ∈ ws,w.length ≤ 100000) ∧ ns.length + ws.length ≤ 100001 ∧
    KeepB i4 k G H ∧ H[i4]? = some (.cells true 0 [v]) ∧ OwnI (G ++ [.dead]) H ns v
def StopP (l : List UInt8) (H0 : AHeap) (x : AExit) (H : AHeap) : Prop :=
  x = .ret ∧ numsS 7 (cutL 32 l) = none ∧ Ext H0 H ∧ H[H0.length]? = some (.cells true 0 [.slice none 0 0]) ∧ H[H0.length + 1]? = some (.cells true 0 [.int .i64 7])
def junkP : Env := []
theorem numS_no {w : List UInt8} (h : ∀ n,Lib.atoiAll w ≠ .ok n) : numS 7 w = none := by
  unfold numS
  split
  · rename_i n hn; exact absurd hn (h n)
  · rfl
theorem numS_bad {w : List UInt8} {n : Int} (h : Lib.atoiAll w = .ok n) (hb : ¬ (Lib.itoa n = w ∧ ((trimM w).length : Int) ≤ 7)) : numS 7 w = none := by
  unfold numS
  rw [h]
  show (if _ then _ else _) = _
  rw [if_neg hb]
theorem numS_ok {w : List UInt8} {n : Int} (h : Lib.atoiAll w = .ok n) (hb : Lib.itoa n = w ∧ ((trimM w).length : Int) ≤ 7) : numS 7 w = some n := by
  unfold numS
  rw [h]
  show (if _ then _ else _) = _
  rw [if_pos hb]
theorem trimM_length (w : List UInt8) : (trimM w).length ≤ w.length := by
  match w with
  | [] => exact Nat.le_refl _
  | b :: r =>
    by_cases hb : b = 45
    · rw [hb,trimM_minus]; simp
    · rw [trimM_plain hb]; exact Nat.le_refl _
section
variable {H : AHeap}
set_option maxHeartbeats 4000000 in
theorem parsePath_c (hs : StrH H) {l : List UInt8} (hl : l.length ≤ 100000) : ACall Go.Proofs.Tryz.prog 23 [.string (bs l)] H (IntsRes H (parsePathL l).1 (parsePathL l).2) := by
  refine ACall.intsE ?_
  (refine a23 ?_; simp only [n23,List.replicate,List.length_cons,List.length_nil,List.cons_append,List.nil_append]; first | refine Go.Lq.q1 ?_ | refine Go.Lq.q2 ?_ | refine Go.Lq.q6 ?_ | refine Go.Lq.q7 ?_ | refine Go.Lq.qh rfl ?_ | skip)
  have x0 : Ext H (H ++ [AObj.cells true 0 [.slice none 0 0]] ++ [AObj.cells true 0 [.int .i64 0]]) := ((Ext.refl H).app _).app _
  have r2 : (H ++ [AObj.cells true 0 [.slice none 0 0]] ++ [AObj.cells true 0 [.int .i64 0]])[H.length]? = some (.cells true 0 [.slice none 0 0]) := by simp
  have r3 : (H ++ [AObj.cells true 0 [.slice none 0 0]] ++ [AObj.cells true 0 [.int .i64 0]])[H.length + 1]? = some (.cells true 0 [.int .i64 0]) := by simp
  have r3' : ∀ c,((H ++ [AObj.cells true 0 [.slice none 0 0]] ++ [AObj.cells true 0 [.int .i64 0]]).set H.length c)[H.length + 1]? = some (.cells true 0 [.int .i64 0]) := fun c => by rw [List.getElem?_set_ne (by omega)]; exact r3
  by_cases h6 : (60000 : Int) < (l.length : Int)
  · have hp : parsePathL l = ([],8) := by unfold parsePathL; rw [if_pos h6]
    rw [hp]
    (repeat(first|refine yw ?_|((first|apply yd|apply ye);simp (disch:=first|exact zz|fail) only[go_sem,dec_t h6];with_reducible rfl)))
    refine cond_t rfl ?_
    (simp only [List.length_append,List.length_cons,List.length_nil,Nat.zero_add,Nat.add_assoc,Nat.reduceAdd])
    (repeat(first|refine yw ?_|((first|apply yd|apply ye);simp (disch:=first|exact zz|fail) only[go_sem,st_l1 r2,st_i1 (r3' _)];with_reducible rfl)))
    exact fin_LL (ld_1 (by rw [List.getElem?_set_ne (by omega)]; exact get_set_self r2)) (ld_1 (get_set_self (r3' _))) ⟨_,rfl,(x0.set (Nat.le_refl _) _).set (by omega) _,OwnI.nil _ _⟩
  (repeat(first|refine yw ?_|((first|apply yd|apply ye);simp (disch:=first|exact zz|fail) only[go_sem,dec_f h6];with_reducible rfl)))
  refine cond_f rfl ?_
  by_cases h0 : l = []
  · have hp : parsePathL l = ([],0) := by unfold parsePathL; rw [if_neg h6,if_pos h0]
    rw [hp]
    (repeat(first|refine yw ?_|((first|apply yd|apply ye);simp (disch:=first|exact zz|fail) only[go_sem,dec_t h0];with_reducible rfl)))
    refine cond_t rfl ?_
    (simp only [List.length_append,List.length_cons,List.length_nil,Nat.zero_add,Nat.add_assoc,Nat.reduceAdd])
    (repeat(first|refine yw ?_|((first|apply yd|apply ye);simp (disch:=first|exact zz|fail) only[go_sem,st_l1 r2,st_i1 (r3' _)];with_reducible rfl)))
    exact fin_LL (ld_1 (by rw [List.getElem?_set_ne (by omega)]; exact get_set_self r2)) (ld_1 (get_set_self (r3' _))) ⟨_,rfl,(x0.set (Nat.le_refl _) _).set (by omega) _,OwnI.nil _ _⟩
  have hp : parsePathL l = match numsS 7 (cutL 32 l) with
    | none => ([],7)
    | some ns => if positionsErrL ns = 0 then (ns,0) else ([],positionsErrL ns) := by unfold parsePathL; rw [if_neg h6,if_neg h0]; first | done | rfl
  clear r2 r3 r3' x0
  (repeat(first|refine yw ?_|((first|apply yd|apply ye);simp (disch:=first|exact zz|fail) only[go_sem,dec_f h0];with_reducible rfl)))
  refine cond_f rfl ?_
  (refine yg ?_)
  refine aops_call_to splitSeq_c ?_
  (simp only [List.length_append,List.length_cons,List.length_nil,Nat.zero_add,Nat.add_assoc,Nat.reduceAdd])
  obtain ⟨G,hG⟩ : ∃ G,G = H ++ [AObj.cells true 0 [.slice none 0 0]] ++ [AObj.cells true 0 [.int .i64 0]] ++ [AObj.cells true 0 [.slice none 0 0]] ++ [AObj.cells true 0 [.string (bs l)],AObj.cells true 0 [.string (bs [32])],AObj.cells true 0 [.int .i64 0]] := ⟨_,rfl⟩
  have k2 : G[H.length]? = some (.cells true 0 [.slice none 0 0]) := by rw [hG]; simp
  have k3 : G[H.length + 1]? = some (.cells true 0 [.int .i64 0]) := by rw [hG]; simp
  have k4 : G[H.length + 2]? = some (.cells true 0 [.slice none 0 0]) := by rw [hG]; simp
  have kb : G[H.length + 3]? = some (.cells true 0 [.string (bs l)]) := by rw [hG]; simp
  have ka : G[H.length + 4]? = some (.cells true 0 [.string (bs [32])]) := by rw [hG]; simp
  have kc : G[H.length + 5]? = some (.cells true 0 [.int .i64 0]) := by rw [hG]; simp
  have lG : G.length = H.length + 6 := by rw [hG]; simp
  have xG : Ext H G := by rw [hG]; exact ((((Ext.refl H).app _).app _).app _).app _
  rw [← hG]
  clear hG
  (refine yg ?_)
  refine awp_rangeC mo rfl (fun l h => by cases h) (splitSeq1_c (a := H.length + 4) (b := H.length + 3) (c := H.length + 5) (l := l) (by omega)) kb (LeftP l (H.length + 2) (H.length + 3) G) (StopP l H) ?_ ?_ ?_ ?_ ?_ ?_ ?_ ?_
  · rintro rest H' c' ⟨ws,ns,v,h1,h2,h3,h4,h5,h7,h8⟩
    exact ⟨ws,ns,v,h1,h2,h3,h4,h5.set (.inr (.inr (Nat.le_refl _))) _,by rw [List.getElem?_set_ne (by omega)]; exact h7,h8.set_lt (by simp) _⟩
  · rintro rest H' c' ⟨ws,ns,v,h1,h2,h3,h4,h5,h7,h8⟩
    exact ⟨ws,ns,v,h1,h2,h3,h4,h5.set (.inr (.inl rfl)) _,by rw [List.getElem?_set_ne (by omega)]; exact h7,h8.set_lt (by simp; omega) _⟩
  · rintro x H' c' ⟨h1,h2,h3,h4,h5⟩
    exact ⟨h1,h2,h3.set (by omega) _,by rw [List.getElem?_set_ne (by omega)]; exact h4,by rw [List.getElem?_set_ne (by omega)]; exact h5⟩
  · rintro rest H' ⟨ws,ns,v,h1,h2,h3,h4,h5,h7,h8⟩
    exact ⟨hs.ext (h5.ext xG (by omega) (by omega)),h5.get ka (by omega) (by omega),h5.get kc (by omega) (by omega)⟩
  · intro N
    refine ⟨cutL 32 l,[],.slice none 0 0,rfl,?_,fun w hw => by have := cutL_piece 32 l w hw; omega,by have := cutL_length 32 l; simp; omega,⟨by simp,fun i hi _ _ => List.getElem?_append_left hi⟩,by rw [List.getElem?_append_left (by omega)]; exact k4,OwnI.nil _ _⟩
    cases numsS 7 (cutL 32 l) <;> simp
  · rintro a rest H1 ⟨ws,ns,v,h1,h2,h3,h4,h5,h7,h8⟩ hlt
    match ws,h1 with
    | w :: ws,h1 =>
    obtain ⟨rfl,rfl⟩ := List.cons.inj h1
    have hwl := h3 w (List.mem_cons_self ..)
    have htl := trimM_length w
    refine ⟨rfl,fun R Rb _ hR => ?_⟩
    simp only [assignParams,List.zip_cons_cons,List.zip_nil_left,List.foldl_cons,List.foldl_nil]
    (refine yg ?_)
    refine ⟨rfl,hR,?_⟩
    have h5' := h5.set (.inr (.inr (Nat.le_refl _))) Rb
    have h7' : (H1.set G.length Rb)[H.length + 2]? = some (.cells true 0 [v]) := by rw [List.getElem?_set_ne (by omega)]; exact h7
    have h8' : OwnI (G ++ [.dead]) (H1.set G.length Rb) ns v := h8.set_lt (by simp) _
    have hRb : (H1.set G.length Rb)[G.length]? = some Rb := get_set_self hR
    have hkk : (H1.set G.length Rb)[H.length + 3]? = H1[H.length + 3]? := List.getElem?_set_ne (by omega)
    have hll : G.length < (H1.set G.length Rb).length := by simpa using hlt
    generalize (H1.set G.length Rb : AHeap) = K at h5' h7' h8' hRb hkk hll
    have xK := h5'.ext xG (by omega) (by omega)
    have hsK := hs.ext xK
    have m2 := h5'.get k2 (by omega) (by omega)
    have m3 := h5'.get k3 (by omega) (by omega)
    have m3' : ∀ c,(K.set H.length c)[H.length + 1]? = some (.cells true 0 [.int .i64 0]) := fun c => by rw [List.getElem?_set_ne (by omega)]; exact m3
    have hstop : numS 7 w = none → Rounded G.length Rb (fun H' => LeftP l (H.length + 2) (H.length + 3) G (List.map (fun w => [Value.string (bs w)]) ws) H' ∧ H'[H.length + 3]? = H1[H.length + 3]?) (StopP l H) .ret junkP
        ((K.set H.length (.cells true 0 [.slice none 0 0])).set (H.length + 1) (.cells true 0 [.int .i64 7])) := fun hn => by
      refine rounded_r ?_ ⟨rfl,by rw [h2,numsS_none hn]; rfl,(xK.set (Nat.le_refl _) _).set (by omega) _,?_,get_set_self (m3' _)⟩
      · rw [List.getElem?_set_ne (by omega),List.getElem?_set_ne (by omega)]; exact hRb
      · rw [List.getElem?_set_ne (by omega)]; exact get_set_self m2
    (refine yg ?_)
    refine aops_call ((atoi_c hsK (l := w) (by omega)).mono fun v1 K1 ⟨hr,e⟩ => ?_)
    subst e
    rcases hr with ⟨n,hn,rfl⟩ | ⟨hn,n,t,rfl⟩
    rotate_left 1
    · (refine yg ?_)
      refine cond_t rfl ?_
      (repeat(first|refine yw ?_|((first|apply yd|apply ye);simp (disch:=first|exact zz|fail) only[go_sem,st_l1 m2,st_i1 (m3' _)];with_reducible rfl)))
      exact hstop (numS_no hn)
    obtain ⟨b0,b1⟩ := Lib.atoiAll_bounds hn
    (refine yg ?_)
    refine aops_call_to (itoa_c hsK b0 b1) ?_
    by_cases e1 : Lib.itoa n = w
    rotate_left 1
    · (repeat(first|refine yw ?_|((first|apply yd|apply ye);simp (disch:=first|exact zz|fail) only[go_sem,dec_t (show Lib.itoa n ≠ w from e1)];with_reducible rfl)))
      refine cond_t rfl ?_
      (repeat(first|refine yw ?_|((first|apply yd|apply ye);simp (disch:=first|exact zz|fail) only[go_sem,st_l1 m2,st_i1 (m3' _)];with_reducible rfl)))
      exact hstop (numS_bad hn fun h => e1 h.1)
    (repeat(first|refine yw ?_|((first|apply yd|apply ye);simp (disch:=first|exact zz|fail) only[go_sem,dec_f (show ¬ Lib.itoa n ≠ w from fun h => h e1)];with_reducible rfl)))
    refine aops_call_to trim_c ?_
    by_cases e2 : (7 : Int) < ((trimM w).length : Int)
    · (repeat(first|refine yw ?_|((first|apply yd|apply ye);simp (disch:=first|exact zz|fail) only[go_sem,dec_t e2];with_reducible rfl)))
      refine cond_t rfl ?_
      (repeat(first|refine yw ?_|((first|apply yd|apply ye);simp (disch:=first|exact zz|fail) only[go_sem,st_l1 m2,st_i1 (m3' _)];with_reducible rfl)))
      exact hstop (numS_bad hn fun h => by omega)
    have hok := numS_ok hn ⟨e1,by omega⟩
    rw [numsS_cons hok] at h2
    (repeat(first|refine yw ?_|((first|apply yd|apply ye);simp (disch:=first|exact zz|fail) only[go_sem,dec_f e2];with_reducible rfl)))
    refine cond_f rfl ?_
    have hlv : loadR (.pointer (some ⟨H.length + 2,0,none⟩)) K1 = some (v,K1) := by rw [load_at h7']; rfl
    have hbl : (G ++ [AObj.dead]).length = G.length + 1 := by simp
    have hpg : ∀ i,i ≤ G.length → (pushH K1 v ns n)[i]? = K1[i]? := fun i hi => pushI_get h8' (by omega) (by omega) _
    have hp4 : (pushH K1 v ns n)[H.length + 2]? = some (.cells true 0 [v]) := by rw [hpg _ (by omega)]; exact h7'
    have hst : storeR 1 (.pointer (some ⟨H.length + 2,0,none⟩)) (pushV K1 ns.length) (pushH K1 v ns n) = some (undef,(pushH K1 v ns n).set (H.length + 2) (.cells true 0 [pushV K1 ns.length])) := by unfold pushV; exact st_l1 hp4
    have hnl : ns.length < 1000000000 := by omega
    (repeat(first|refine yw ?_|((first|apply yd|apply ye);simp (disch:=first|exact zz|fail) only[go_sem,hlv,h8'.push hnl,hst];with_reducible rfl)))
    refine rounded_n ?_ ⟨⟨ws,ns ++ [n],pushV K1 ns.length,rfl,?_,fun x hx => h3 x (List.mem_cons_of_mem _ hx),?_,(h5'.push h8' (by omega) _).set (.inl rfl) _,get_set_self hp4,(h8'.pushed2 (by omega) _).set_lt (by omega) _⟩,?_⟩
    · rw [List.getElem?_set_ne (by omega),hpg _ (Nat.le_refl _)]; exact hRb
    · rw [h2]; cases numsS 7 ws <;> simp
    · simp at h4 ⊢; omega
    · rw [List.getElem?_set_ne (by omega),hpg _ (by omega)]; exact hkk
  · rintro H' ⟨ws,ns,v,h1,h2,h3,h4,h5,h7,h8⟩
    match ws,h1 with
    | [],_ =>
    have hns : numsS 7 (cutL 32 l) = some ns := by rw [h2]; show some (ns ++ []) = _; rw [List.append_nil]
    rw [hns] at hp
    have hp : parsePathL l = if positionsErrL ns = 0 then (ns,0) else ([],positionsErrL ns) := hp
    have xK := h5.ext xG (by omega) (by omega)
    have m2 := h5.get k2 (by omega) (by omega)
    have m3 := h5.get k3 (by omega) (by omega)
    have m3' : ∀ c,(H'.set H.length c)[H.length + 1]? = some (.cells true 0 [.int .i64 0]) := fun c => by rw [List.getElem?_set_ne (by omega)]; exact m3
    have hbl : (G ++ [AObj.dead]).length = G.length + 1 := by simp
    have h9 : OwnI H H' ns v := h8.lt (by omega)
    obtain ⟨va,vn,vc,rfl⟩ : ∃ a n c,v = .slice a n c := by
      rcases h8.2 with ⟨rfl,_⟩ | ⟨id,rfl,_⟩ <;> exact ⟨_,_,_,rfl⟩
    (repeat(first|refine yw ?_|((first|apply yd|apply ye);simp (disch:=first|exact zz|fail) only[go_sem,ld_1 h7];with_reducible rfl)))
    (refine aops_call_to (positionsErr_c h9.ints (by omega)) ?_)
    by_cases he : positionsErrL ns = 0
    · rw [if_pos he] at hp
      rw [hp,he]
      (refine yg ?_)
      refine cond_f rfl ?_
      (repeat(first|refine yw ?_|((first|apply yd|apply ye);simp (disch:=first|exact zz|fail) only[go_sem,ld_1 h7,st_l1 m2,st_i1 (m3' _)];with_reducible rfl)))
      exact fin_LL (ld_1 (by rw [List.getElem?_set_ne (by omega)]; exact get_set_self m2)) (ld_1 (get_set_self (m3' _))) ⟨_,rfl,(xK.set (Nat.le_refl _) _).set (by omega) _,OwnI.lt (H0 := G ++ [.dead]) ((h8.set_lt (by omega) _).set_lt (by omega) _) (by omega)⟩
    · rw [if_neg he] at hp
      rw [hp]
      (repeat(first|refine yw ?_|((first|apply yd|apply ye);simp (disch:=first|exact zz|fail) only[go_sem,dec_t (show positionsErrL ns ≠ 0 from he)];with_reducible rfl)))
      refine cond_t rfl ?_
      (repeat(first|refine yw ?_|((first|apply yd|apply ye);simp (disch:=first|exact zz|fail) only[go_sem,st_l1 m2,st_i1 (m3' _)];with_reducible rfl)))
      exact fin_LL (ld_1 (by rw [List.getElem?_set_ne (by omega)]; exact get_set_self m2)) (ld_1 (get_set_self (m3' _))) ⟨_,rfl,(xK.set (Nat.le_refl _) _).set (by omega) _,OwnI.nil _ _⟩
  · rintro x H' hx ⟨rfl,h2,h3,h4,h5⟩
    rw [h2] at hp
    have hp : parsePathL l = ([],7) := hp
    rw [hp]
    exact blk_r (seq_r (fin_LL (ld_1 h4) (ld_1 h5) ⟨.slice none 0 0,rfl,h3,OwnI.nil _ _⟩))
end
end Go.Lq

namespace Go.Lq
open Go
open Go.Proofs
def priceR (ll : List (List Int)) (bend : Int) : Nat → List Int
  | 0 => ll.getD 0 []
  | r + 1 => (List.range (ll.getD 0 []).length).map fun c => ceilL ll bend (priceR ll bend r) (r + 1) c
def pricesP (ll : List (List Int)) (bend : Int) : List (List Int) := (List.range ll.length).map (priceR ll bend)
theorem ceilGo_eq (bend : Int) (bef : List Int) (c : Nat) : ∀ (l : List Nat) (m : Int),ceilGo bend bef c m l = minGo (fun d => bef.getD d 0 + bendI bend (d : Int) (c : Int)) m l
  | [],m => rfl
  | d :: t,m => by rw [ceilGo,minGo]; exact ceilGo_eq bend bef c t _
theorem priceRows_of {w : Nat} : ∀ {ll : List (List Int)},(∀ r ∈ ll,priceRow w r = 0) → priceRows w ll = 0
  | [],_ => rfl
  | r :: t,h => by
    unfold priceRows
    rw [if_pos (h r (by simp))]
    exact priceRows_of fun x hx => h x (by simp [hx])
section
variable {ll : List (List Int)} {bend : Int}
theorem priceR_len : ∀ r,(priceR ll bend r).length = (ll.getD 0 []).length
  | 0 => rfl
  | r + 1 => by simp [priceR]
theorem priceR_getD {r c : Nat} (hc : c < (ll.getD 0 []).length) : (priceR ll bend (r + 1)).getD c 0 = ceilL ll bend (priceR ll bend r) (r + 1) c := by
  show ((List.range (ll.getD 0 []).length).map fun c => ceilL ll bend (priceR ll bend r) (r + 1) c).getD c 0 = _
  rw [getD_map_range hc]
theorem priceR_bound (hv : ∀ i,i < ll.length → ∀ n ∈ ll.getD i [],0 ≤ n ∧ n ≤ 255) (hb : 0 ≤ bend ∧ bend ≤ 1000) : ∀ (r c : Nat),r < 100 → 0 ≤ (priceR ll bend r).getD c 0 ∧ (priceR ll bend r).getD c 0 ≤ 1255 * (r + 1)
  | 0,c,_ => by
    have := val_bound hv 0 c
    unfold priceR
    omega
  | r + 1,c,hr => by
    by_cases hc : c < (ll.getD 0 []).length
    · rw [priceR_getD hc]
      have hvb := val_bound hv (r + 1) c
      obtain ⟨h1,h2,h3⟩ := minGo_spec (fun d => (priceR ll bend r).getD d 0 + bendI bend (d : Int) (c : Int)) (nbL (ll.getD 0 []).length c) 1000000
      have hm := h2 c ((nbL_mem hc).2 ⟨hc,by omega,by omega⟩)
      rw [← ceilGo_eq] at hm h3
      have ih := priceR_bound hv hb r c (by omega)
      have e0 : bendI bend (c : Int) (c : Int) = 0 := by unfold bendI; rw [if_pos rfl]
      simp only [e0] at hm
      unfold ceilL
      have hlo : 0 ≤ ceilGo bend (priceR ll bend r) c 1000000 (nbL (ll.getD 0 []).length c) := by
        rcases h3 with h3 | ⟨d,_,h3⟩
        · omega
        · have i2 := priceR_bound hv hb r d (by omega)
          have bb := bendI_bound (a := (d : Int)) (b := (c : Int)) hb
          omega
      push_cast
      omega
    · rw [getD_ge (by rw [priceR_len]; omega)]
      omega
theorem price_rest (hv : ∀ i,i < ll.length → ∀ n ∈ ll.getD i [],0 ≤ n ∧ n ≤ 255) (hb : 0 ≤ bend ∧ bend ≤ 1000) (hl : ll.length ≤ 40) {n : Int} (hn : ∀ i,i < (ll.getD 0 []).length → n ≤ restK ll bend (fun _ => true) (ll.length - 1) i) :
    ∀ (r c : Nat),r < ll.length → c < (ll.getD 0 []).length → n ≤ (priceR ll bend r).getD c 0 - vAt ll r c + restK ll bend (fun _ => true) (ll.length - 1 - r) c
  | 0,c,h0,hc => by
    have := hn c hc
    rw [Nat.sub_zero]
    unfold priceR vAt
    omega
  | r + 1,c,hr,hc => by
    rw [priceR_getD hc]
    obtain ⟨h1,h2,h3⟩ := minGo_spec (fun d => (priceR ll bend r).getD d 0 + bendI bend (d : Int) (c : Int)) (nbL (ll.getD 0 []).length c) 1000000
    have hm := h2 c ((nbL_mem hc).2 ⟨hc,by omega,by omega⟩)
    rw [← ceilGo_eq] at hm h3
    have hbd := priceR_bound hv hb r c (by omega)
    have e0 : bendI bend (c : Int) (c : Int) = 0 := by unfold bendI; rw [if_pos rfl]
    simp only [e0] at hm
    rcases h3 with h3 | ⟨d,hd,h3⟩
    · omega
    have hdn := (nbL_mem hc).1 hd
    have ih := price_rest hv hb hl hn r d (by omega) hdn.1
    have hm2 := (minGo_spec (fun e => vAt ll r d + bendI bend (d : Int) (e : Int) + restK ll bend (fun _ => true) (ll.length - 2 - r) e) (nbL (ll.getD 0 []).length d) 1000000).2.1 c ((nbL_mem hdn.1).2 ⟨hc,by omega,by omega⟩)
    have er : restK ll bend (fun _ => true) (ll.length - 1 - r) d = minGo (fun e => vAt ll r d + bendI bend (d : Int) (e : Int) + restK ll bend (fun _ => true) (ll.length - 2 - r) e) 1000000 (nbL (ll.getD 0 []).length d) := by
      rw [show ll.length - 1 - r = (ll.length - 2 - r) + 1 by omega,restK]
      rw [show ll.length - 2 - (ll.length - 2 - r) = r by omega]
    rw [← er] at hm2
    unfold ceilL
    rw [show ll.length - 1 - (r + 1) = ll.length - 2 - r by omega]
    simp only [vAt] at hm2 ih ⊢
    omega
theorem pricesP_len : (pricesP ll bend).length = ll.length := by simp [pricesP]
theorem pricesP_getD {r : Nat} (hr : r < ll.length) : (pricesP ll bend).getD r [] = priceR ll bend r := by unfold pricesP; rw [getD_map_range hr]
theorem prices_ok (hg : gridErrL 40 12 ll = 0) (hb : 0 ≤ bend ∧ bend ≤ 1000) : priceRows (ll.getD 0 []).length (pricesP ll bend) = 0 ∧ PricesOk ll bend (pricesP ll bend) ∧ boundL (pricesP ll bend) = (bestP ll bend).2.1 := by
  obtain ⟨w1,w2,w3,w4,w5,w6⟩ := gridErr_ok hg
  have hrows : priceRows (ll.getD 0 []).length (pricesP ll bend) = 0 := by
    refine priceRows_of fun r hr => ?_
    simp only [pricesP,List.mem_map,List.mem_range] at hr
    obtain ⟨i,hi,rfl⟩ := hr
    unfold priceRow
    rw [if_pos (priceR_len i),if_pos]
    refine List.all_eq_true.2 fun x hx => ?_
    obtain ⟨c,_,rfl⟩ := mem_getD (d := 0) hx
    have := priceR_bound w6 hb i c (by omega)
    simp only [sizedB,decide_eq_true_eq]
    omega
  have hok : PricesOk ll bend (pricesP ll bend) := fun row hrow c hc => by
    rw [pricesP_len] at hrow
    rw [pricesP_getD hrow]
    unfold mostL
    match row with
    | 0 => rw [if_pos rfl]; exact Int.le_refl _
    | row + 1 =>
      rw [if_neg (by omega),Nat.add_sub_cancel,pricesP_getD (by omega),priceR_getD hc]
      exact Int.le_refl _
  refine ⟨hrows,hok,?_⟩
  obtain ⟨_,b1,b2,b3⟩ := best_law hg hb
  have hup := bound_cost (pricesP_len (bend := bend)) hrows hok b1 hg
  rw [b2] at hup
  obtain ⟨j,hj,e,h1,h2,h3⟩ := best_first hg hb
  have hlo : (bestP ll bend).2.1 ≤ boundL (pricesP ll bend) := by
    have key : ∀ c,c < (ll.getD 0 []).length → (bestP ll bend).2.1 ≤ (priceR ll bend (ll.length - 1)).getD c 0 := fun c hc => by
      have := price_rest w6 hb (by omega) h1 (ll.length - 1) c (by omega) hc
      rw [Nat.sub_self] at this
      rw [e]
      simp only [restK,if_true] at this ⊢
      omega
    unfold boundL
    rw [pricesP_len,pricesP_getD (by omega),priceR_len]
    have : ∀ n,n ≤ (ll.getD 0 []).length → (bestP ll bend).2.1 ≤ minTo (priceR ll bend (ll.length - 1)) n := fun n => by
      induction n with
      | zero => intro _; exact key 0 w2
      | succ n ih =>
        intro hn
        have h1 := ih (by omega)
        have h2 := key n (by omega)
        unfold minTo
        omega
    exact this _ (Nat.le_refl _)
  omega
end
end Go.Lq

namespace Go.Lq
open Go
open Go.Proofs
theorem OwnL.one {H0 H : AHeap} {l : List Int} {w : Value} (hx : Ext H0 H) (hw : OwnI H0 H l w) (hl : 0 < l.length) : OwnL H0 (H ++ [.cells true 1 [w]]) [l] (.slice (some ⟨H.length,0,none⟩) 1 1) := by
  obtain ⟨id,rfl,h1,hc⟩ : ∃ id,w = .slice (some ⟨id,0,none⟩) l.length l.length ∧ H0.length ≤ id ∧ H[id]? = some (.cells true 1 (l.map (.int .i64))) := by
    rcases hw.2 with ⟨_,h0⟩ | ⟨id,e,h1,_,hc⟩
    · omega
    · exact ⟨id,e,h1,hc⟩
  refine ⟨[.slice (some ⟨id,0,none⟩) l.length l.length],⟨rfl,.inr ⟨H.length,rfl,hx.len,by simp,at_new⟩⟩,fun i hi => ?_,fun i j hij hj => ?_⟩
  · have : i = 0 := by simpa using hi
    subst this
    refine ⟨id,rfl,?_,h1,at_app hc⟩
    have := (List.getElem?_eq_some_iff.1 hc).1
    show H.length ≠ id
    omega
  · simp only [List.length_cons,List.length_nil] at hj
    omega
section
variable {H : AHeap}
set_option maxHeartbeats 1000000 in
theorem prices_c {ll : List (List Int)} {vs : List Value} {v : Value} {bend : Int} (hL : Lists H ll vs v) (ht : taskErrL ll bend = 0) :
    ACall Go.Proofs.Tryz.prog 12 [.agg ⟨[v,.int .i64 bend]⟩] H fun v1 H' => v1 = .tuple #[retLV H (pricesP ll bend),.int .i64 0] ∧ H' = H ++ retLN H (pricesP ll bend) := by
  refine ACall.tidyL (f := fun s => .tuple #[s,.int .i64 0]) (wraps_1 (.int _ _)) ?_
  obtain ⟨hg,hbe⟩ := taskErr_ok ht
  obtain ⟨w1,w2,w3,w4,w5,w6⟩ := gridErr_ok hg
  (refine a12 ?_; simp only [n12,List.replicate,yq,yr,yt,yu]; first | refine q1 ?_ | refine q2 ?_ | refine q6 ?_ | refine q7 ?_ | refine qh rfl ?_ | skip)
  (repeat(first|refine yw ?_|((first|apply yd|apply ye);simp (disch:=first|exact zz|fail) only[go_sem,hL.box2];with_reducible rfl)))
  refine aops_call ((open_c (bend := bend) (hL.ext ((Ext.refl H).app [AObj.cells true 0 [v,.int .i64 bend]])) (by omega) (fun i hi => by have := w5 i hi; omega)).mono fun v1 H1 ⟨e1,x11⟩ => ?_)
  subst e1
  have xH : Ext H H1 := ((Ext.refl H).app _).trans x11
  have g0 := x11.cell (at_new : (H ++ [AObj.cells true 0 [v,.int .i64 bend]])[H.length]? = some (.cells true 0 [v,.int .i64 bend]))
  rw [ht]
  (repeat(first|refine yw ?_|((first|apply yd|apply ye);simp (disch:=first|exact zz|fail) only[go_sem,store_newT hL.atom];with_reducible rfl)))
  refine cond_f rfl ?_
  have x2 : Ext H (H1 ++ [AObj.cells true 0 [v,.int .i64 bend]]) := xH.app _
  have g2 : (H1 ++ [AObj.cells true 0 [v,.int .i64 bend]])[H1.length]? = some (.cells true 0 [v,.int .i64 bend]) := at_new
  have g02 := at_app (N := [AObj.cells true 0 [v,.int .i64 bend]]) g0
  generalize (H1 ++ [AObj.cells true 0 [v,.int .i64 bend]] : AHeap) = H2 at x2 g2 g02
  have hL2 := hL.ext x2
  have hrow2 := hL2.row w1
  (repeat(first|refine yw ?_|((first|apply yd|apply ye);simp (disch:=first|exact zz|fail) only[go_sem,hL2.len,hL2.idx,hL2.load,load_at g02,show (0 : Int).toNat = 0 from rfl];with_reducible rfl)))
  refine aops_call ((clone_c hrow2 (by omega)).mono fun v1 H3 ⟨hown,_,x3⟩ => ?_)
  have hown := hown w2
  obtain ⟨sa,sn,sc,rfl⟩ := hown.shape
  have x23 := x2.trans x3
  have hone := OwnL.one x3 hown w2
  (repeat(first|refine yw ?_|((first|apply yd|apply ye);simp (disch:=first|exact zz|fail) only[go_sem,fillA_slice];with_reducible rfl)))
  have x4 : Ext H2 (H3 ++ [AObj.cells true 1 [.slice sa sn sc]]) := x3.app _
  generalize (H3 ++ [AObj.cells true 1 [.slice sa sn sc]] : AHeap) = H4 at hone x4
  refine awp_loop_n [false,false,false,false,true,false,true,true,false,false,false,false,false,false,false,false,false,false,false,false,false,false,false,false,false,false,false,false,false,false,false,false,false,false,false,false,false,false,false,false,false,false,false,false,false,false,false,false,false,false,false,false,false] (ll.length - 1) (fun i e H' => ∃ pv,e = [junk,junk,junk,junk,.pointer (some ⟨H1.length,0,none⟩),junk,pv,.int .i64 ((i + 1 : Nat) : Int),junk,junk,junk,junk,junk,junk,junk,junk,junk,junk,junk,junk,junk,junk,junk,junk,junk,junk,junk,junk,junk,junk,junk,junk,junk,junk,junk,junk,junk,junk,junk,junk,junk,junk,junk,junk,junk,junk,junk,junk,junk,junk,junk,junk,junk] ∧ Ext H2 H' ∧ OwnL H2 H' ((List.range (i + 1)).map (priceR ll bend)) pv) ?_ ?_
  · exact ⟨_,by simp [forget],x4,hone⟩
  rintro i e H5 hi ⟨pv,rfl,x5,hol⟩
  have hL5 := hL2.ext x5
  have g5 := x5.cell g2
  (repeat(first|refine yw ?_|((first|apply yd|apply ye);simp (disch:=first|exact zz|fail) only[go_sem,loadN_at g5];with_reducible rfl)))
  refine aops_call_to (last_c hL5 (by omega)) ?_
  (refine yg ?_)
  refine cond_p rfl (fun hle => ?_) (fun hgt => ?_)
  rotate_left 1
  · obtain rfl : i = ll.length - 1 := by omega
    (refine yg ?_)
    refine fin_2 ⟨pv,rfl,x2.trans x5,?_⟩
    rw [show ll.length - 1 + 1 = ll.length by omega] at hol
    exact hol.weaken x2.len
  have hi' : i + 1 < ll.length := by omega
  (repeat(first|refine yw ?_|((first|apply yd|apply ye);simp (disch:=first|exact zz|fail) only[go_sem,loadN_at g5];with_reducible rfl)))
  refine aops_call_to (columns_c hL5 w1) ?_
  (refine yg ?_)
  obtain ⟨us,hT⟩ := hol.lists
  have hTl : ((List.range (i + 1)).map (priceR ll bend)).length = i + 1 := by simp
  have hTr := hT.row (k := i) (by omega)
  rw [getD_map_range (by omega)] at hTr
  refine awp_loop_n [false,false,false,false,true,false,true,true,true,false,false,false,false,false,false,false,false,false,false,false,false,false,false,false,false,false,false,false,false,false,false,true,true,false,false,false,false,false,false,false,false,false,false,false,false,false,false,false,false,false,false,false,false] (ll.getD 0 []).length (fun c e H' => ∃ ov,e = [junk,junk,junk,junk,.pointer (some ⟨H1.length,0,none⟩),junk,pv,.int .i64 ((i + 1 : Nat) : Int),ov,junk,junk,junk,junk,junk,junk,junk,junk,junk,junk,junk,junk,junk,junk,junk,junk,junk,junk,junk,junk,junk,junk,.int .i64 ((ll.getD 0 []).length : Nat),.int .i64 c,junk,junk,junk,junk,junk,junk,junk,junk,junk,junk,junk,junk,junk,junk,junk,junk,junk,junk,junk,junk] ∧ Ext H5 H' ∧ OwnI H5 H' ((List.range c).map fun c => ceilL ll bend (priceR ll bend i) (i + 1) c) ov) ?_ ?_
  · exact ⟨.slice none 0 0,by simp [forget],Ext.refl _,OwnI.nil _ _⟩
  rintro c e H6 hc ⟨ov,rfl,x6,ho⟩
  have hol' : ((List.range c).map fun c => ceilL ll bend (priceR ll bend i) (i + 1) c).length = c := by simp
  (refine yg ?_)
  refine cond_p rfl (fun hlt => ?_) (fun hge => ?_)
  rotate_left 1
  · obtain rfl : c = (ll.getD 0 []).length := by omega
    obtain ⟨nv,H7,p1,p2,p3⟩ := hol.pushRow x5 x6 ho (by omega) (by omega)
    obtain ⟨ta,tn,tc,rfl⟩ := ho.shape
    (repeat(first|refine yw ?_|((first|apply yd|apply ye);simp (disch:=first|exact zz|fail) only[go_sem,fillA_slice,p1];with_reducible rfl)))
    refine ⟨by omega,nv,by simp [forget],p3,?_⟩
    rw [List.range_succ,List.map_append]
    exact p2
  have hc' : c < (ll.getD 0 []).length := by omega
  have hL6 := hL5.ext x6
  have hT6 := hT.ext x6
  have hpr : ∀ d : Nat,-1000000 ≤ (priceR ll bend i).getD d 0 ∧ (priceR ll bend i).getD d 0 ≤ 1000000 := fun d => by
    have := priceR_bound w6 hbe i d (by omega); omega
  (repeat(first|refine yw ?_|((first|apply yd|apply ye);simp (disch:=first|exact zz|fail) only[go_sem,hT6.len,hT6.idx,hT6.load,loadN_at (x6.cell g5),show (((i + 1 : Nat) : Int) - 1).toNat = i by omega];with_reducible rfl)))
  refine adraw_call (N := []) (firstD (ceiling_c (row := i + 1) (c := c) hL6 (hTr.ext x6) hg hbe (priceR_len i) hpr hi' hc')) ?_
  rw [List.append_nil]
  (repeat(first|refine yw ?_|((first|apply yd|apply ye);simp (disch:=first|exact zz|fail) only[go_sem,ho.push (show _ < 1000000000 by omega) (ceilL ll bend (priceR ll bend i) (i + 1) c)];with_reducible rfl)))
  refine ⟨by omega,_,by simp [forget]; rfl,ho.ext x6 _,?_⟩
  have hp := ho.pushed x6 (ceilL ll bend (priceR ll bend i) (i + 1) c)
  rw [hol'] at hp
  rw [List.range_succ,List.map_append]
  exact hp
end
end Go.Lq

namespace Go.Lq
open Go
open Go.Proofs
theorem firstErr_priceRow (w : Nat) (r : List Int) : firstErr [if decide ((r.length : Int) = (w : Int)) = true then 0 else 10,if (!r.any fun n => !sizedB 1000000 n) = true then 0 else 2] = priceRow w r := by
  have e : (!r.any fun n => !sizedB 1000000 n) = r.all (sizedB 1000000) := by
    rw [← List.not_all_eq_any_not,Bool.not_not]
  rw [e]
  unfold firstErr priceRow
  by_cases h1 : r.length = w
  · cases r.all (sizedB 1000000) <;> simp [h1]
  · have h1' : ¬ (r.length : Int) = w := by omega
    simp [h1,h1']
noncomputable def priceErrA (ll : List (List Int)) (bend : Int) (pp : List (List Int)) : Int := if taskErrL ll bend = 0 then pricesErrL ll bend pp else taskErrL ll bend
section
variable {H : AHeap}
theorem checkPrices_c {ll pp : List (List Int)} {vs ws : List Value} {v vp : Value} {bend : Int} (hL : Lists H ll vs v) (hP : Lists H pp ws vp) (hb : ll.length ≤ 1000000000) (hr : ∀ i,i < ll.length → (ll.getD i []).length ≤ 1000000000)
    (hbp : pp.length ≤ 1000000) (hrp : ∀ i,i < pp.length → (pp.getD i []).length ≤ 1000000) :
    ACall Go.Proofs.Tryz.prog 14 [.agg ⟨[v,.int .i64 bend]⟩,vp] H fun v1 H1 => v1 = .tuple #[.int .i64 (if priceErrA ll bend pp = 0 then boundL pp else 0),.int .i64 (priceErrA ll bend pp)] ∧ H1 = H := by
  refine ACall.drop (closed_two _ _) ?_
  (refine a14 ?_; simp only [n14,List.replicate,yq,yr,yt,yu]; first | refine q1 ?_ | refine q2 ?_ | refine q6 ?_ | refine q7 ?_ | refine qh rfl ?_ | skip)
  (repeat(first|refine yw ?_|((first|apply yd|apply ye);simp (disch:=first|exact zz|fail) only[go_sem,hL.box2];with_reducible rfl)))
  have g0 : (H ++ [AObj.cells true 0 [v,.int .i64 bend]])[H.length]? = some (.cells true 0 [v,.int .i64 bend]) := at_new
  have xG : Ext H (H ++ [AObj.cells true 0 [v,.int .i64 bend]]) := (Ext.refl H).app _
  refine aops_call ((open_c (hL.ext xG) hb hr).mono fun v1 H1 ⟨e1,hx1⟩ => ?_)
  subst e1
  have hst := store_at2v (at_new (H := H1) (o := true) (e := 0) (vs := [.slice none 0 0,.int .i64 0])) hL.atom (isAtom_int .i64 bend)
  (repeat(first|refine yw ?_|((first|apply yd|apply ye);simp (disch:=first|exact zz|fail) only[go_sem,hst];with_reducible rfl)))
  obtain ⟨k,hk⟩ : ∃ k,k = H1.length := ⟨_,rfl⟩
  obtain ⟨G2,hG2⟩ : ∃ G2,G2 = (H1 ++ [AObj.cells true 0 [.slice none 0 0,.int .i64 0]]).set H1.length (.cells true 0 [v,.int .i64 bend]) := ⟨_,rfl⟩
  have gk : G2[k]? = some (.cells true 0 [v,.int .i64 bend]) := by rw [hG2,hk]; exact get_set_self at_new
  have x2 : Ext H1 G2 := by rw [hG2]; exact ((Ext.refl H1).app _).set (Nat.le_refl _) _
  have g02 := (hx1.trans x2).cell g0
  have xG2 := (xG.trans hx1).trans x2
  rw [← hG2,← hk]
  clear hG2
  have hL2 := hL.ext xG2
  have hP2 := hP.ext xG2
  (repeat(first|refine yw ?_|((first|apply yd|apply ye);simp (disch:=first|exact zz|fail) only[go_sem,hP2.len,hP2.idx,hP2.load,hL2.len,hL2.idx,hL2.load,load_at g02];with_reducible rfl)))
  refine aops_call_to (unless_c _ _) ?_
  (refine yg ?_)
  refine aops_call_to (first_c (l := [_,_]) (Ints.last (l := [_,_]) 2) (by simp)) ?_
  obtain ⟨e2,he2⟩ : ∃ e2,e2 = firstErr [taskErrL ll bend,if decide ((pp.length : Int) = (ll.length : Int)) = true then 0 else 10] := ⟨_,rfl⟩
  have gk3 := at_app (N := [AObj.cells true 1 [.int .i64 (taskErrL ll bend),.int .i64 (if decide ((pp.length : Int) = (ll.length : Int)) = true then 0 else 10)]]) gk
  have g03 := at_app (N := [AObj.cells true 1 [.int .i64 (taskErrL ll bend),.int .i64 (if decide ((pp.length : Int) = (ll.length : Int)) = true then 0 else 10)]]) g02
  have xG3 := xG2.app [AObj.cells true 1 [.int .i64 (taskErrL ll bend),.int .i64 (if decide ((pp.length : Int) = (ll.length : Int)) = true then 0 else 10)]]
  rw [← he2]
  generalize (G2 ++ [AObj.cells true 1 [.int .i64 (taskErrL ll bend),.int .i64 (if decide ((pp.length : Int) = (ll.length : Int)) = true then 0 else 10)]] : AHeap) = G3 at gk3 g03 xG3
  have spec : (e2 ≠ 0 ∧ priceErrA ll bend pp = e2) ∨ (e2 = 0 ∧ taskErrL ll bend = 0 ∧ pp.length = ll.length) := by
    by_cases h1 : taskErrL ll bend = 0
    · by_cases h2 : pp.length = ll.length
      · refine .inr ⟨by rw [he2]; unfold firstErr; simp [h1,h2],h1,h2⟩
      · have h2' : ¬ (pp.length : Int) = (ll.length : Int) := by omega
        have : e2 = 10 := by rw [he2]; unfold firstErr; simp [h1,h2']
        refine .inl ⟨by omega,?_⟩
        unfold priceErrA pricesErrL
        rw [if_pos h1,if_neg h2,this]
    · have : e2 = taskErrL ll bend := by rw [he2]; unfold firstErr; simp [h1]
      refine .inl ⟨by rw [this]; exact h1,?_⟩
      unfold priceErrA
      rw [if_neg h1,this]
  clear he2
  rcases spec with ⟨hne,hres⟩ | ⟨rfl,hok,hlen⟩
  · rw [hres,if_neg hne]
    (repeat(first|refine yw ?_|((first|apply yd|apply ye);simp (disch:=first|exact zz|fail) only[go_sem,dec_t hne];with_reducible rfl)))
    refine cond_t rfl ?_
    (refine yg ?_)
    exact fin_2 ⟨rfl,xG3⟩
  obtain ⟨hg,hbe⟩ := taskErr_ok hok
  obtain ⟨w1,w2,w3,w4,w5,w6⟩ := gridErr_ok hg
  have ea : priceErrA ll bend pp = if priceRows (ll.getD 0 []).length pp = 0 then (open Classical in if PricesOk ll bend pp then 0 else 19) else priceRows (ll.getD 0 []).length pp := by
    unfold priceErrA pricesErrL
    rw [if_pos hok,if_pos hlen]
  (refine yg ?_)
  refine cond_f rfl ?_
  have hP3 := hP.ext xG3
  have hL3 := hL.ext xG3
  (repeat(first|refine yw ?_|((first|apply yd|apply ye);simp (disch:=first|exact zz|fail) only[go_sem,hP3.len,hP3.idx,hP3.load];with_reducible rfl)))
  refine awp_loop_n [false,true,true,false,false,false,true,false,false,false,false,false,false,false,false,false,false,false,false,false,false,false,false,false,false,false,false,false,false,false,false,false,false,false,false,true,true,true,false,false,false,false,false,false,false,false,false,false,false,false,false,false,false,false,false,false,false,false,false,false,false,false,false,false,false,false,false,false,false,false,false,false,false,false,false,false,false,false,false,false,false,false,false,false,false,false,false,false,false,false,false,false,false,false,false,false,false,false,false,false,false] pp.length (fun i e H' => e = [junk,vp,.pointer (some ⟨H.length,0,none⟩),junk,junk,junk,.pointer (some ⟨k,0,none⟩),junk,junk,junk,junk,junk,junk,junk,junk,junk,junk,junk,junk,junk,junk,junk,junk,junk,junk,junk,junk,junk,junk,junk,junk,junk,junk,junk,junk,vp,.int .i64 pp.length,.int .i64 i,junk,junk,junk,junk,junk,junk,junk,junk,junk,junk,junk,junk,junk,junk,junk,junk,junk,junk,junk,junk,junk,junk,junk,junk,junk,junk,junk,junk,junk,junk,junk,junk,junk,junk,junk,junk,junk,junk,junk,junk,junk,junk,junk,junk,junk,junk,junk,junk,junk,junk,junk,junk,junk,junk,junk,junk,junk,junk,junk,junk,junk,junk,junk] ∧ Ext G3 H' ∧ priceRows (ll.getD 0 []).length (pp.drop i) = priceRows (ll.getD 0 []).length pp) ?_ ?_
  · exact ⟨by simp [forget],Ext.refl _,rfl⟩
  rintro i e H4 hi ⟨rfl,hx4,hv⟩
  have hP4 := hP3.ext hx4
  (refine yg ?_)
  refine cond_p rfl (fun hlt => ?_) (fun hge => ?_)
  · have hi' : i < pp.length := by omega
    have hrow := hP4.row hi'
    have hrl := hrp i hi'
    rw [priceRows_step hi'] at hv
    (repeat(first|refine yw ?_|((first|apply yd|apply ye);simp (disch:=first|exact zz|fail) only[go_sem,hP4.len,hP4.idx,hP4.load];with_reducible rfl)))
    refine aops_call_to (containsFunc_c hrow price1_c (by omega)) ?_
    (repeat(first|refine yw ?_|((first|apply yd|apply ye);simp (disch:=first|exact zz|fail) only[go_sem,hrow.len,hrow.idx,hrow.load,loadN_at (hx4.cell gk3)];with_reducible rfl)))
    refine aops_call_to (columns_c (hL3.ext hx4) w1) ?_
    (refine yg ?_)
    refine aops_call_to (unless_c _ _) ?_
    (refine yg ?_)
    refine aops_call_to (unless_c _ _) ?_
    (refine yg ?_)
    refine aops_call_to (first_c (l := [_,_]) (Ints.last (l := [_,_]) 2) (by simp)) ?_
    rw [firstErr_priceRow]
    (refine yg ?_)
    refine cond_p rfl (fun hne => ?_) (fun heq => ?_)
    · rw [if_neg hne] at hv
      have e3 : priceErrA ll bend pp = priceRow (ll.getD 0 []).length (pp.getD i []) := by rw [ea,← hv,if_neg hne]
      rw [e3,if_neg hne]
      (refine yg ?_)
      exact fin_2 ⟨rfl,(xG3.trans hx4).app _⟩
    · rw [if_pos (Decidable.not_not.1 heq)] at hv
      (refine yg ?_)
      exact ⟨by omega,by simp [forget],hx4.app _,hv⟩
  rw [priceRows_end (by omega)] at hv
  have hrows := hv.symm
  rw [hrows,if_pos rfl] at ea
  have hall := priceRows_all hrows
  have xG4 := xG3.trans hx4
  have hL4 := hL3.ext hx4
  have gk4 := hx4.cell gk3
  have g04 := hx4.cell g03
  have bad : ¬ PricesOk ll bend pp → priceErrA ll bend pp = 19 := fun h => by rw [ea,if_neg h]
  have prow : ∀ row,row < pp.length → (pp.getD row []).length = (ll.getD 0 []).length := fun row h => (priceRow_ok (hall row h)).1
  have pval : ∀ row,row < pp.length → ∀ c : Nat,-1000000 ≤ (pp.getD row []).getD c 0 ∧ (pp.getD row []).getD c 0 ≤ 1000000 := fun row h => (priceRow_ok (hall row h)).2
  clear hv
  (repeat(first|refine yw ?_|((first|apply yd|apply ye);simp (disch:=first|exact zz|fail) only[go_sem,hP4.len,hP4.idx,hP4.load];with_reducible rfl)))
  refine awp_loop_n [false,true,true,false,false,false,true,false,false,false,false,false,false,false,false,false,false,false,false,false,false,false,false,false,false,false,false,false,false,false,false,false,false,false,false,false,false,false,false,false,false,false,false,false,false,false,false,false,false,false,false,false,false,false,false,false,false,false,true,true,true,false,false,false,false,false,false,false,false,false,false,false,false,false,false,false,false,false,false,false,false,false,false,false,false,false,false,false,false,false,false,false,false,false,false,false,false,false,false,false,false] pp.length (fun row e H' => e = [junk,vp,.pointer (some ⟨H.length,0,none⟩),junk,junk,junk,.pointer (some ⟨k,0,none⟩),junk,junk,junk,junk,junk,junk,junk,junk,junk,junk,junk,junk,junk,junk,junk,junk,junk,junk,junk,junk,junk,junk,junk,junk,junk,junk,junk,junk,junk,junk,junk,junk,junk,junk,junk,junk,junk,junk,junk,junk,junk,junk,junk,junk,junk,junk,junk,junk,junk,junk,junk,vp,.int .i64 pp.length,.int .i64 row,junk,junk,junk,junk,junk,junk,junk,junk,junk,junk,junk,junk,junk,junk,junk,junk,junk,junk,junk,junk,junk,junk,junk,junk,junk,junk,junk,junk,junk,junk,junk,junk,junk,junk,junk,junk,junk,junk,junk,junk] ∧ H' = H4 ∧
    ∀ r,r < row → ∀ c,c < (ll.getD 0 []).length → (pp.getD r []).getD c 0 ≤ mostL ll bend pp r c) ?_ ?_
  · exact ⟨by simp [forget],rfl,by omega⟩
  rintro row e H5 hrowi ⟨rfl,rfl,hbef⟩
  (refine yg ?_)
  refine cond_p rfl (fun hlt2 => ?_) (fun hge2 => ?_)
  rotate_left 1
  · obtain rfl : row = pp.length := by omega
    have hpok : PricesOk ll bend pp := hbef
    have e3 : priceErrA ll bend pp = 0 := by rw [ea,if_pos hpok]
    rw [e3,if_pos rfl]
    have c1 : ((ll.length : Int) - 1) = ((pp.length - 1 : Nat) : Int) := by omega
    have hrl := hP4.row (k := pp.length - 1) (by omega)
    have hrll := prow (pp.length - 1) (by omega)
    (repeat(first|refine yw ?_|((first|apply yd|apply ye);simp (disch:=first|exact zz|fail) only[go_sem,loadN_at gk4];with_reducible rfl)))
    refine aops_call_to (last_c hL4 (by omega)) ?_
    rw [c1]
    (repeat(first|refine yw ?_|((first|apply yd|apply ye);simp (disch:=first|exact zz|fail) only[go_sem,hP4.len,hP4.idx,hP4.load];with_reducible rfl)))
    refine aops_call_to (min_c hrl (by omega) (by omega)) ?_
    (refine yg ?_)
    exact fin_2 ⟨rfl,xG4⟩
  have hr' : row < pp.length := by omega
  have hrow := hP4.row hr'
  have hwid := prow row hr'
  (repeat(first|refine yw ?_|((first|apply yd|apply ye);simp (disch:=first|exact zz|fail) only[go_sem,hP4.len,hP4.idx,hP4.load,hrow.len,hrow.idx,hrow.load];with_reducible rfl)))
  refine awp_loop_n [false,true,true,false,false,false,true,false,false,false,false,false,true,false,false,false,false,false,false,false,false,false,false,false,false,false,false,false,false,false,false,false,false,false,false,false,false,false,false,false,false,false,false,false,false,false,false,false,false,false,false,false,false,false,false,false,false,false,true,true,true,false,false,false,false,true,true,true,false,false,false,false,false,false,false,false,false,false,false,false,false,false,false,false,false,false,false,false,false,false,false,false,false,false,false,false,false,false,false,false,false] (ll.getD 0 []).length (fun c e H' => e = [junk,vp,.pointer (some ⟨H.length,0,none⟩),junk,junk,junk,.pointer (some ⟨k,0,none⟩),junk,junk,junk,junk,junk,.int .i64 row,junk,junk,junk,junk,junk,junk,junk,junk,junk,junk,junk,junk,junk,junk,junk,junk,junk,junk,junk,junk,junk,junk,junk,junk,junk,junk,junk,junk,junk,junk,junk,junk,junk,junk,junk,junk,junk,junk,junk,junk,junk,junk,junk,junk,junk,vp,.int .i64 pp.length,.int .i64 row,junk,junk,junk,junk,ws.getD row undef,.int .i64 ((pp.getD row []).length : Nat),.int .i64 c,junk,junk,junk,junk,junk,junk,junk,junk,junk,junk,junk,junk,junk,junk,junk,junk,junk,junk,junk,junk,junk,junk,junk,junk,junk,junk,junk,junk,junk,junk,junk,junk,junk] ∧ H' = H5 ∧
    ∀ c',c' < c → (pp.getD row []).getD c' 0 ≤ mostL ll bend pp row c') ?_ ?_
  · exact ⟨by simp [forget],rfl,by omega⟩
  rintro c e H6 hci ⟨rfl,rfl,hbef2⟩
  (refine yg ?_)
  refine cond_p rfl (fun hlt3 => ?_) (fun hge3 => ?_)
  rotate_left 1
  · (refine yg ?_)
    refine ⟨by omega,by simp [forget],rfl,fun r hr c' hc' => ?_⟩
    by_cases hrr : r = row
    · subst hrr; exact hbef2 c' (by omega)
    · exact hbef r (by omega) c' hc'
  have hc' : c < (ll.getD 0 []).length := by omega
  have hr0 := hL4.row w1
  have step : (pp.getD row []).getD c 0 ≤ mostL ll bend pp row c → ∀ c',c' < c + 1 → (pp.getD row []).getD c' 0 ≤ mostL ll bend pp row c' := fun h c' hc' => by
    by_cases hcc : c' = c
    · subst hcc; exact h
    · exact hbef2 c' (by omega)
  (repeat(first|refine yw ?_|((first|apply yd|apply ye);simp (disch:=first|exact zz|fail) only[go_sem,hrow.len,hrow.idx,hrow.load,hL4.len,hL4.idx,hL4.load,hr0.len,hr0.idx,hr0.load,load_at g04,show (0 : Int).toNat = 0 from rfl];with_reducible rfl)))
  by_cases hz : row = 0
  · have em : mostL ll bend pp row c = (ll.getD 0 []).getD c 0 := if_pos hz
    refine cond_f (by simp (disch:=first|exact zz|fail) only[go_sem,dec_f (show ¬ 0 < (row : Int) by omega)]) ?_
    (refine yg ?_)
    refine cond_p rfl (fun hgt => ?_) (fun hle => ?_)
    · rw [bad (fun h => by have := h row hr' c hc'; omega),if_neg (by decide)]
      (refine yg ?_)
      exact fin_2 ⟨rfl,xG4⟩
    · (refine yg ?_)
      exact ⟨by omega,by simp [forget],rfl,step (by omega)⟩
  · have em : mostL ll bend pp row c = ceilL ll bend (pp.getD (row - 1) []) row c := if_neg hz
    have c1 : ((row : Int) - 1) = ((row - 1 : Nat) : Int) := by omega
    have hprev := hP4.row (k := row - 1) (by omega)
    refine cond_t (by simp (disch:=first|exact zz|fail) only[go_sem,dec_t (show 0 < (row : Int) by omega)]) ?_
    (repeat(first|refine yw ?_|((first|apply yd|apply ye);simp (disch:=first|exact zz|fail) only[go_sem,hP4.len,hP4.idx,hP4.load,loadN_at gk4,c1];with_reducible rfl)))
    refine adraw_call (N := []) (firstD (ceiling_c hL4 hprev hg hbe (prow _ (by omega)) (pval _ (by omega)) (by omega) hc')) ?_
    rw [List.append_nil]
    (refine yg ?_)
    refine cond_p rfl (fun hgt => ?_) (fun hle => ?_)
    · rw [bad (fun h => by have := h row hr' c hc'; omega),if_neg (by decide)]
      (refine yg ?_)
      exact fin_2 ⟨rfl,xG4⟩
    · (refine yg ?_)
      exact ⟨by omega,by simp [forget],rfl,step (by omega)⟩
end
end Go.Lq


namespace Go.Lq
open Go
open Go.Proofs
theorem i64_of {n : Int} (h : InI64 n) : i64 n := by unfold InI64 at h; unfold i64; omega
def discC (rl : List Int) (L bend crack : Int) : List Value := rl.map (.int .i64) ++ [.int .i64 L,.int .i64 bend,.int .i64 crack]
set_option maxRecDepth 100000 in
theorem repDisc {H : AHeap} {v : Value} (h : RepA Tryz.prog H 24 v) : ∃ rl L bend crack,rl.length = 8 ∧ v = .agg ⟨discC rl L bend crack⟩ ∧ (∀ n ∈ rl,i64 n) ∧ i64 L ∧ i64 bend ∧ i64 crack := by
  obtain ⟨acs,rfl,hr⟩ := h.struct Tryz.underlying24
  obtain ⟨hl,hf⟩ := hr.struct_inv Tryz.underlying24
  rw [show Tryz.prog.cellsOf 24 = 11 by kernel_rfl] at hl
  match acs,hl with
  | [a0,a1,a2,a3,a4,a5,a6,a7,x,y,z],_ =>
    have h0 : Rep Tryz.prog H 22 (([a0,a1,a2,a3,a4,a5,a6,a7,x,y,z].drop 0).take (Tryz.prog.cellsOf 22)) := hf 0 _ rfl
    have h1 : Rep Tryz.prog H 3 (([a0,a1,a2,a3,a4,a5,a6,a7,x,y,z].drop 8).take (Tryz.prog.cellsOf 3)) := hf 1 _ rfl
    have h2 : Rep Tryz.prog H 3 (([a0,a1,a2,a3,a4,a5,a6,a7,x,y,z].drop 9).take (Tryz.prog.cellsOf 3)) := hf 2 _ rfl
    have h3 : Rep Tryz.prog H 3 (([a0,a1,a2,a3,a4,a5,a6,a7,x,y,z].drop 10).take (Tryz.prog.cellsOf 3)) := hf 3 _ rfl
    rw [show Tryz.prog.cellsOf 22 = 8 by kernel_rfl] at h0
    have c3 : Tryz.prog.cellsOf 3 = 1 := by kernel_rfl
    rw [c3] at h1 h2 h3
    obtain ⟨L,eL,wL⟩ := h1.int_inv Tryz.underlying3
    obtain ⟨B,eB,wB⟩ := h2.int_inv Tryz.underlying3
    obtain ⟨C,eC,wC⟩ := h3.int_inv Tryz.underlying3
    obtain ⟨_,hg⟩ := h0.array_inv Tryz.underlying22
    rw [c3] at hg
    obtain ⟨n0,e0,w0⟩ := (hg 0 (by omega)).int_inv Tryz.underlying3
    obtain ⟨n1,e1,w1⟩ := (hg 1 (by omega)).int_inv Tryz.underlying3
    obtain ⟨n2,e2,w2⟩ := (hg 2 (by omega)).int_inv Tryz.underlying3
    obtain ⟨n3,e3,w3⟩ := (hg 3 (by omega)).int_inv Tryz.underlying3
    obtain ⟨n4,e4,w4⟩ := (hg 4 (by omega)).int_inv Tryz.underlying3
    obtain ⟨n5,e5,w5⟩ := (hg 5 (by omega)).int_inv Tryz.underlying3
    obtain ⟨n6,e6,w6⟩ := (hg 6 (by omega)).int_inv Tryz.underlying3
    obtain ⟨n7,e7,w7⟩ := (hg 7 (by omega)).int_inv Tryz.underlying3
    have eL' : [x] = [.int .i64 L] := eL
    have eB' : [y] = [.int .i64 B] := eB
    have eC' : [z] = [.int .i64 C] := eC
    have e0' : [a0] = [.int .i64 n0] := e0
    have e1' : [a1] = [.int .i64 n1] := e1
    have e2' : [a2] = [.int .i64 n2] := e2
    have e3' : [a3] = [.int .i64 n3] := e3
    have e4' : [a4] = [.int .i64 n4] := e4
    have e5' : [a5] = [.int .i64 n5] := e5
    have e6' : [a6] = [.int .i64 n6] := e6
    have e7' : [a7] = [.int .i64 n7] := e7
    cases eL'; cases eB'; cases eC'; cases e0'; cases e1'; cases e2'; cases e3'; cases e4'; cases e5'; cases e6'; cases e7'
    refine ⟨[n0,n1,n2,n3,n4,n5,n6,n7],L,B,C,rfl,rfl,fun n hn => ?_,i64_of (wf_i64 wL),i64_of (wf_i64 wB),i64_of (wf_i64 wC)⟩
    simp only [List.mem_cons,List.not_mem_nil,or_false] at hn
    rcases hn with rfl | rfl | rfl | rfl | rfl | rfl | rfl | rfl
    · exact i64_of (wf_i64 w0)
    · exact i64_of (wf_i64 w1)
    · exact i64_of (wf_i64 w2)
    · exact i64_of (wf_i64 w3)
    · exact i64_of (wf_i64 w4)
    · exact i64_of (wf_i64 w5)
    · exact i64_of (wf_i64 w6)
    · exact i64_of (wf_i64 w7)
section
variable {rl : List Int} {L bend crack : Int} {J : AHeap} {id : Nat}
theorem box_disc {H : AHeap} : boxR (.agg ⟨discC rl L bend crack⟩) H = some (.pointer (some ⟨H.length,0,none⟩),H ++ [.cells true 0 (discC rl L bend crack)]) := box_agg (by
  unfold discC
  rw [List.all_append]
  simp [isAtom_int])
theorem disc_r (hr : rl.length = 8) (h : J[id]? = some (.cells true 0 (discC rl L bend crack))) {k : Nat} (hk : k < 8) : loadR (.pointer (some ⟨id,k,none⟩)) J = some (.int .i64 (rl.getD k 0),J) := by
  have : (discC rl L bend crack)[k]? = some (.int .i64 (rl.getD k 0)) := by
    unfold discC
    rw [List.getElem?_append_left (by simp; omega),List.getElem?_map,List.getD_eq_getElem?_getD,List.getElem?_eq_getElem (by omega)]
    rfl
  unfold loadR cellAt
  simp only [h,this,Option.map_some]
theorem disc_8 (hr : rl.length = 8) (h : J[id]? = some (.cells true 0 (discC rl L bend crack))) : loadR (.pointer (some ⟨id,8,none⟩)) J = some (.int .i64 L,J) := by
  have : (discC rl L bend crack)[8]? = some (.int .i64 L) := by unfold discC; rw [List.getElem?_append_right (by simp [hr])]; simp [hr]
  unfold loadR cellAt
  simp only [h,this,Option.map_some]
theorem disc_9 (hr : rl.length = 8) (h : J[id]? = some (.cells true 0 (discC rl L bend crack))) : loadR (.pointer (some ⟨id,9,none⟩)) J = some (.int .i64 bend,J) := by
  have : (discC rl L bend crack)[9]? = some (.int .i64 bend) := by unfold discC; rw [List.getElem?_append_right (by simp [hr])]; simp [hr]
  unfold loadR cellAt
  simp only [h,this,Option.map_some]
theorem disc_10 (hr : rl.length = 8) (h : J[id]? = some (.cells true 0 (discC rl L bend crack))) : loadR (.pointer (some ⟨id,10,none⟩)) J = some (.int .i64 crack,J) := by
  have : (discC rl L bend crack)[10]? = some (.int .i64 crack) := by unfold discC; rw [List.getElem?_append_right (by simp [hr])]; simp [hr]
  unfold loadR cellAt
  simp only [h,this,Option.map_some]
theorem idxA8 {k : Nat} (hk : k < 8) : idxAR 8 1 (.pointer (some ⟨id,0,none⟩)) (.int .i64 (k : Int)) J = some (.pointer (some ⟨id,k,none⟩),J) := by
  have := idxA_at (len := 8) (size := 1) (id := id) (off := 0) (k := .i64) (H := J) hk
  rw [this]; simp
end
theorem store_inZ {H : AHeap} {k e i : Nat} {vs : List Value} {v w : Value} (h : H[k]? = some (.cells true e vs)) (hi : i < vs.length) (ha : isAtom w = true) (hc : v.cells = ⟨[w]⟩) :
    storeR 1 (.pointer (some ⟨k,i,none⟩)) v H = some (undef,H.set k (.cells true e (vs.set i w))) := by
  have e2 : ([w] : List Value).all isAtom = true := by simp [ha]
  simp only [storeR,hc,List.size_toArray,storeAt,h,e2,and_true,List.length_cons,List.length_nil]
  rw [setCells_one _ _ _ hi]
  simp [show i + 1 ≤ vs.length by omega]
theorem Ext.last_setZ {A H' : AHeap} {c : AObj} (h : Ext (A ++ [c]) H') (c' : AObj) : Ext (A ++ [c']) (H'.set A.length c') := by
  obtain ⟨M,rfl⟩ := h
  exact ⟨M,by simp⟩
def rowZ (L : Int) (j : Nat) : List Int := List.replicate j L ++ List.replicate (13 - j) 0
theorem rowZ_len {L : Int} {j : Nat} (h : j ≤ 13) : (rowZ L j).length = 13 := by simp [rowZ]; omega
theorem rowZ_set {L : Int} {j : Nat} (h : j < 13) : (rowZ L j).set j L = rowZ L (j + 1) := by
  unfold rowZ
  rw [show 13 - j = (13 - (j + 1)) + 1 by omega,List.replicate_succ (n := 13 - (j + 1)),List.set_append_right _ _ (by simp)]
  simp only [List.length_replicate,Nat.sub_self,List.set_cons_zero]
  rw [show List.replicate (j + 1) L = List.replicate j L ++ [L] by rw [List.replicate_succ']]
  simp
theorem rowZ_end (L : Int) : rowZ L 13 = List.replicate 13 L := by simp [rowZ]
def rowsZ (L : Int) (i : Nat) : List (List Int) := List.replicate i (rowZ L 13)
theorem rowsZ_succ (L : Int) (i : Nat) : rowsZ L i ++ [rowZ L 13] = rowsZ L (i + 1) := by unfold rowsZ; rw [List.replicate_succ']
theorem rowsZ_len (L : Int) (i : Nat) : (rowsZ L i).length = i := by simp [rowsZ]
theorem rowsZ_end (R : Nat → Nat) (L crack : Int) : rowsZ L 13 = img R L crack 0 := by unfold rowsZ img; rw [rowZ_end]
theorem mkRow {L : Int} {K : AHeap} : mkSliceR 8 [.int .i64 0] (.int .i64 13) (.int .i64 13) K = some (.slice (some ⟨K.length,0,none⟩) 13 13,K ++ [.cells true 1 ((rowZ L 0).map (.int .i64))]) := mkSlice_ints (n := 13) (by omega) (by omega)
theorem idxRow {K M : AHeap} {j : Nat} (hj : j < 13) : idxR 1 (.slice (some ⟨K.length,0,none⟩) 13 13) (.int .i64 (j : Int)) M = some (.pointer (some ⟨K.length,j,none⟩),M) := by
  simp only [idxR]; rw [if_pos ⟨by omega,by omega⟩]; simp [Addr.add]
theorem storeRow {L : Int} {K : AHeap} {j : Nat} (hj : j < 13) : storeR 1 (.pointer (some ⟨K.length,j,none⟩)) (.int .i64 L) (K ++ [.cells true 1 ((rowZ L j).map (.int .i64))]) = some (undef,K ++ [.cells true 1 ((rowZ L (j + 1)).map (.int .i64))]) := by
  have := store_inZ (H := K ++ [.cells true 1 ((rowZ L j).map (.int .i64))]) (k := K.length) (e := 1) (i := j) (v := .int .i64 L) (w := .int .i64 L) at_new (by rw [List.length_map,rowZ_len (by omega)]; exact hj) (isAtom_int .i64 L) rfl
  rw [this,← List.map_set,rowZ_set hj]
  simp
theorem OwnL.cellZ {H0 H : AHeap} {ll : List (List Int)} {v : Value} (h : OwnL H0 H ll v) {i c : Nat} (hi : i < ll.length) (hc : c < (ll.getD i []).length) (x : Int) :
    ∃ id,(∀ M,idxR 1 v (.int .i64 (i : Int)) M = some (addrOf v i,M)) ∧ loadR (addrOf v i) H = some (.slice (some ⟨id,0,none⟩) (ll.getD i []).length (ll.getD i []).length,H) ∧
      storeR 1 (.pointer (some ⟨id,c,none⟩)) (.int .i64 x) H = some (undef,H.set id (.cells true 1 (((ll.getD i []).set c x).map (.int .i64)))) ∧
      OwnL H0 (H.set id (.cells true 1 (((ll.getD i []).set c x).map (.int .i64)))) (ll.set i ((ll.getD i []).set c x)) v ∧ H0.length ≤ id := by
  obtain ⟨vs,ho,hr,hd⟩ := h
  obtain ⟨id,e,hne,hge,hcell⟩ := hr i hi
  have hid := (List.getElem?_eq_some_iff.1 hcell).1
  refine ⟨id,fun M => ?_,?_,?_,⟨vs,?_,fun j hj => ?_,fun a b hab hb => hd a b hab (by simpa using hb)⟩,hge⟩
  · have := Sl.idx ho.sl (k := .i64) (i := (i : Int)) (H' := M) (by omega) (by omega)
    simpa using this
  · have := Sl.load ho.sl (Ext.refl H) (k := i) (by omega)
    rw [this,e]
  · have := store_inZ hcell (i := c) (v := .int .i64 x) (w := .int .i64 x) (by simpa using hc) (isAtom_int .i64 x) rfl
    rw [this,List.map_set]
  · refine ⟨by simpa using ho.1,ho.2.imp (fun ⟨h1,h2⟩ => ⟨h1,by simpa using h2⟩) fun ⟨id0,e0,h1,h2,h3⟩ => ⟨id0,by simpa using e0,h1,by simpa using h2,?_⟩⟩
    rw [List.getElem?_set_ne (by rw [e0] at hne; exact fun x => hne x.symm)]
    exact h3
  · have hj' : j < ll.length := by simpa using hj
    obtain ⟨idj,ej,hnj,hgj,hcj⟩ := hr j hj'
    by_cases hji : j = i
    · subst hji
      have : idj = id := by rw [e] at ej; cases ej; rfl
      subst this
      refine ⟨idj,?_,hne,hge,?_⟩
      · rw [getD_setZ hi,if_pos rfl,List.length_set]; exact e
      · rw [getD_setZ hi,if_pos rfl,List.getElem?_set_self hid]
    · have hdj : idj ≠ id := by
        rcases Nat.lt_or_ge j i with hlt | hge2
        · have := hd j i hlt hi
          rw [e,ej] at this
          exact this
        · have := hd i j (by omega) hj'
          rw [e,ej] at this
          exact fun x => this x.symm
      refine ⟨idj,?_,hnj,hgj,?_⟩
      · rw [getD_setZ hi,if_neg (fun x => hji x.symm)]; exact ej
      · rw [getD_setZ hi,if_neg (fun x => hji x.symm),List.getElem?_set_ne (fun x => hdj x.symm)]; exact hcj
theorem idxRowI {id j : Nat} {M : AHeap} (hj : j < 13) : idxR 1 (.slice (some ⟨id,0,none⟩) 13 13) (.int .i64 (j : Int)) M = some (.pointer (some ⟨id,j,none⟩),M) := by
  simp only [idxR]; rw [if_pos ⟨by omega,by omega⟩]; simp [Addr.add]
theorem pAt_y {r k : Nat} (hr : r < 7) (hk : k < 8) : 6 + (pAt r k).2 = ((yAt r k : Nat) : Int) ∧ 6 + (pAt r k).1 = ((xAt r k : Nat) : Int) ∧ -6 ≤ (pAt r k).1 ∧ (pAt r k).1 ≤ 6 ∧ -6 ≤ (pAt r k).2 ∧ (pAt r k).2 ≤ 6 := by
  have := pAt_in r hr k hk
  unfold yAt xAt
  omega
theorem mul_rk {r k : Nat} (hr : r ≤ 6) (hk : k < 8) : (r : Int) * (k : Int) = ((r * k : Nat) : Int) ∧ r * k ≤ 48 := by
  refine ⟨by simp,?_⟩
  have := Nat.mul_le_mul hr (show k ≤ 8 by omega)
  omega
theorem img_grid {R : Nat → Nat} {L crack bend : Int} (h : Disc R L crack bend) : gridErrL 24 24 (img R L crack 8) = 0 := by
  obtain ⟨h1,h2⟩ := img_dims (L := L) (crack := crack) h.ring 8 (Nat.le_refl _)
  unfold gridErrL
  rw [h2 0 (by decide),h1,if_neg (by decide),if_neg (by decide)]
  refine gridGo_of fun r hr => ?_
  obtain ⟨k,hk,rfl⟩ := List.getElem_of_mem hr
  have hk8 : k < 13 := by rw [h1] at hk; exact hk
  rw [mem_at (d := []) hk]
  refine ⟨h2 k hk8,fun n hn => ?_⟩
  obtain ⟨c,hc,rfl⟩ := List.getElem_of_mem hn
  have hc6 : c < 13 := by rw [h2 k hk8] at hc; exact hc
  rw [mem_at (d := 0) hc,img_at h.ring 8 (Nat.le_refl _) k c hk8 hc6]
  have := h.light
  split <;> omega
theorem unrolled_disc {R : Nat → Nat} {L crack bend : Int} (h : Disc R L crack bend) :
    (if gridErrL 24 24 (img R L crack 8) = 0 then unrolledL (img R L crack 8) 6 6 1 6 8 else ([],gridErrL 24 24 (img R L crack 8))) = (discS R L crack,0) := by
  obtain ⟨h1,h2⟩ := img_dims (L := L) (crack := crack) h.ring 8 (Nat.le_refl _)
  rw [if_pos (img_grid h)]
  have hi : inR (img R L crack 8) 6 6 6 = true := by
    rw [inR_t,h1,h2 0 (by decide)]
    decide
  unfold unrolledL
  rw [if_pos (by decide),if_pos (by decide),if_pos (by decide),if_pos hi]
  rfl
theorem copyListsE_c {H : AHeap} {ll : List (List Int)} {vs : List Value} {v : Value} (hL : Lists H ll vs v) (hb : ll.length ≤ 1000000) (hr : ∀ i,i < ll.length → (ll.getD i []).length ≤ 1000000) :
    ACall Go.Proofs.Tryz.prog 15 [v] H fun w H' => w = retLV H ll ∧ H' = H ++ retLN H ll :=
  ACall.tidyL (f := id) wraps_id ((copyLists_c hL hb hr).mono fun w H' ⟨ho,hx⟩ => ⟨w,rfl,hx,ho⟩)
end Go.Lq
