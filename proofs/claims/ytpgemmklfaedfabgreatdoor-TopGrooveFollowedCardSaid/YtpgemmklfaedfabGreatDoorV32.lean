/- Towards TopGrooveFollowed of seat YtpgemmklfaedfabGreatDoor: it returns true for every input. Made out of the proof's own texts, merged. -/
import Derived.KernelRfl
import Derived.Test.YtpgemmklfaedfabGreatDoorCards
import Derived.Test.YtpgemmklfaedfabGreatDoorTie
import Derived.LaidMore
import Derived.HandedShaped
import Derived.Lib.LaidTab
import Derived.Lay
import Derived.Stop.Joined
import Derived.Test.YtpgemmklfaedfabGreatDoorV31
set_option linter.unusedSimpArgs false
set_option linter.unnecessarySimpa false
set_option linter.unusedVariables false
set_option linter.unusedSectionVars false
set_option maxRecDepth 100000
namespace Go.Lq
open Go
open Go.Proofs
def gridRow (w : Nat) (r : List Int) : Int := if r.length = w then (if r.all (fun n => decide (0 ≤ n ∧ n ≤ 255)) then 0 else 2) else 10
def gridGo (w : Nat) : List (List Int) → Int
  | [] => 0
  | r :: t => if gridRow w r = 0 then gridGo w t else gridRow w r
def gridErrL (rows cols : Int) (ll : List (List Int)) : Int :=
  if ll.length = 0 ∨ (ll.getD 0 []).length = 0 then 10 else if rows < ll.length ∨ cols < (ll.getD 0 []).length then 8 else gridGo (ll.getD 0 []).length ll
theorem gridGo_step {w : Nat} {ll : List (List Int)} {i : Nat} (h : i < ll.length) : gridGo w (ll.drop i) = if gridRow w (ll.getD i []) = 0 then gridGo w (ll.drop (i + 1)) else gridRow w (ll.getD i []) := by
  rw [drop_getD (d := []) h]; rfl
theorem gridGo_end {w : Nat} {ll : List (List Int)} {i : Nat} (h : ll.length ≤ i) : gridGo w (ll.drop i) = 0 := by rw [drop_end h]; rfl
theorem gridGo_all {w : Nat} : ∀ {ll : List (List Int)},gridGo w ll = 0 → ∀ i,i < ll.length → gridRow w (ll.getD i []) = 0
  | [],_,i,hi => by simp at hi
  | r :: t,h,i,hi => by
    unfold gridGo at h
    by_cases hr : gridRow w r = 0
    · rw [if_pos hr] at h
      cases i with
      | zero => exact hr
      | succ i => simpa using gridGo_all h i (by simpa using hi)
    · rw [if_neg hr] at h; exact absurd h hr
section
variable {H : AHeap}
theorem refGridErr_c {ll : List (List Int)} {vs : List Value} {v : Value} {rows cols : Int} (hL : Lists H ll vs v) (hb : ll.length ≤ 1000000000) (hr : ∀ i,i < ll.length → (ll.getD i []).length ≤ 1000000000) :
    ACall Go.Proofs.Tryz.prog 63 [v,.int .i64 rows,.int .i64 cols] H fun v1 H1 => v1 = .int .i64 (gridErrL rows cols ll) ∧ H1 = H := by
  (refine a63 ?_; simp only [n63,List.replicate,yq,yr,yt,yu]; first | refine q1 ?_ | refine q2 ?_ | refine q6 ?_ | refine q7 ?_ | refine qh rfl ?_ | skip)
  have z0 : (0 : Int).toNat = 0 := rfl
  by_cases h0 : ll.length = 0
  · have e1 : gridErrL rows cols ll = 10 := by unfold gridErrL; rw [if_pos (.inl h0)]
    (repeat(first|refine yw ?_|((first|apply yd|apply ye);simp (disch:=first|exact zz|fail) only[go_sem,hL.len,hL.idx,hL.load,dec_t (show (ll.length : Int) = 0 by omega)];with_reducible rfl)))
    refine cond_t rfl ?_
    (refine yg ?_)
    exact fin_1 ⟨by rw [e1]; rfl,rfl⟩
  have hrow0 := hL.row (k := 0) (by omega)
  by_cases h1 : (ll.getD 0 []).length = 0
  · have e1 : gridErrL rows cols ll = 10 := by unfold gridErrL; rw [if_pos (.inr h1)]
    (repeat(first|refine yw ?_|((first|apply yd|apply ye);simp (disch:=first|exact zz|fail) only[go_sem,hL.len,hL.idx,hL.load,hrow0.len,hrow0.idx,hrow0.load,z0,dec_f (show ¬ (ll.length : Int) = 0 by omega),dec_t (show ((ll.getD 0 []).length : Int) = 0 by omega)];with_reducible rfl)))
    refine cond_t rfl ?_
    (refine yg ?_)
    exact fin_1 ⟨by rw [e1]; rfl,rfl⟩
  (repeat(first|refine yw ?_|((first|apply yd|apply ye);simp (disch:=first|exact zz|fail) only[go_sem,hL.len,hL.idx,hL.load,hrow0.len,hrow0.idx,hrow0.load,z0,dec_f (show ¬ (ll.length : Int) = 0 by omega),dec_f (show ¬ ((ll.getD 0 []).length : Int) = 0 by omega)];with_reducible rfl)))
  refine cond_f rfl ?_
  have g0 : ¬ (ll.length = 0 ∨ (ll.getD 0 []).length = 0) := by omega
  by_cases h2 : rows < ll.length
  · have e1 : gridErrL rows cols ll = 8 := by unfold gridErrL; rw [if_neg g0,if_pos (.inl h2)]
    (repeat(first|refine yw ?_|((first|apply yd|apply ye);simp (disch:=first|exact zz|fail) only[go_sem,hL.len,hL.idx,hL.load,dec_t h2];with_reducible rfl)))
    refine cond_t rfl ?_
    (refine yg ?_)
    exact fin_1 ⟨by rw [e1]; rfl,rfl⟩
  by_cases h3 : cols < (ll.getD 0 []).length
  · have e1 : gridErrL rows cols ll = 8 := by unfold gridErrL; rw [if_neg g0,if_pos (.inr h3)]
    (repeat(first|refine yw ?_|((first|apply yd|apply ye);simp (disch:=first|exact zz|fail) only[go_sem,hL.len,hL.idx,hL.load,hrow0.len,hrow0.idx,hrow0.load,z0,dec_f h2,dec_t h3];with_reducible rfl)))
    refine cond_t rfl ?_
    (refine yg ?_)
    exact fin_1 ⟨by rw [e1]; rfl,rfl⟩
  (repeat(first|refine yw ?_|((first|apply yd|apply ye);simp (disch:=first|exact zz|fail) only[go_sem,hL.len,hL.idx,hL.load,hrow0.len,hrow0.idx,hrow0.load,z0,dec_f h2,dec_f h3];with_reducible rfl)))
  refine cond_f rfl ?_
  (refine yg ?_)
  have e1 : gridErrL rows cols ll = gridGo (ll.getD 0 []).length ll := by unfold gridErrL; rw [if_neg g0,if_neg (by omega)]
  refine awp_loop_n [true,false,false,false,false,false,false,true,false,false,false,false,false,false,false,false,false,false,false,false,false,false,false,false,false,false,false,false,false,false,false,false,false,false,false,false,false,false,false,false,false,false,false,false,false,false,false,false,false,false,false,false,false,false,false,false,false,false,false,false,false,false,false,false,false] ll.length (fun i e H' => H = H' ∧ e = [v,junk,junk,junk,junk,junk,junk,.int .i64 i,junk,junk,junk,junk,junk,junk,junk,junk,junk,junk,junk,junk,junk,junk,junk,junk,junk,junk,junk,junk,junk,junk,junk,junk,junk,junk,junk,junk,junk,junk,junk,junk,junk,junk,junk,junk,junk,junk,junk,junk,junk,junk,junk,junk,junk,junk,junk,junk,junk,junk,junk,junk,junk,junk,junk,junk,junk] ∧ gridGo (ll.getD 0 []).length (ll.drop i) = gridGo (ll.getD 0 []).length ll) ?_ ?_
  · exact ⟨rfl,by simp [forget],rfl⟩
  rintro i e H1 hi ⟨rfl,rfl,hv⟩
  (repeat(first|refine yw ?_|((first|apply yd|apply ye);simp (disch:=first|exact zz|fail) only[go_sem,hL.len,hL.idx,hL.load];with_reducible rfl)))
  refine cond_p rfl (fun hlt => ?_) (fun hge => ?_)
  · have hi' : i < ll.length := by omega
    have hrow := hL.row hi'
    have hrl := hr i hi'
    rw [gridGo_step hi'] at hv
    (repeat(first|refine yw ?_|((first|apply yd|apply ye);simp (disch:=first|exact zz|fail) only[go_sem,hL.len,hL.idx,hL.load,hrow.len,hrow.idx,hrow.load,hrow0.len,hrow0.idx,hrow0.load,z0];with_reducible rfl)))
    refine cond_p rfl (fun hne => ?_) (fun heq => ?_)
    · have e3 : gridRow (ll.getD 0 []).length (ll.getD i []) = 10 := by unfold gridRow; rw [if_neg (by omega)]
      rw [e3,if_neg (by decide)] at hv
      (refine yg ?_)
      exact fin_1 ⟨by rw [e1,← hv]; rfl,rfl⟩
    have hw : (ll.getD i []).length = (ll.getD 0 []).length := by omega
    (refine yg ?_)
    refine awp_loop_n [true,false,false,false,false,false,false,true,true,false,false,false,false,false,false,false,false,false,false,false,false,false,false,false,false,false,false,false,false,false,false,false,false,false,false,false,false,false,false,false,false,false,false,false,false,false,false,false,false,false,false,false,false,false,false,false,false,false,false,false,false,false,false,false,false] (ll.getD i []).length (fun j e H' => H = H' ∧ e = [v,junk,junk,junk,junk,junk,junk,.int .i64 i,.int .i64 j,junk,junk,junk,junk,junk,junk,junk,junk,junk,junk,junk,junk,junk,junk,junk,junk,junk,junk,junk,junk,junk,junk,junk,junk,junk,junk,junk,junk,junk,junk,junk,junk,junk,junk,junk,junk,junk,junk,junk,junk,junk,junk,junk,junk,junk,junk,junk,junk,junk,junk,junk,junk,junk,junk,junk,junk] ∧ ∀ k : Nat,k < j → 0 ≤ (ll.getD i []).getD k 0 ∧ (ll.getD i []).getD k 0 ≤ 255) ?_ ?_
    · exact ⟨rfl,by simp [forget],by omega⟩
    rintro j e H1 hj ⟨rfl,rfl,hbef⟩
    (repeat(first|refine yw ?_|((first|apply yd|apply ye);simp (disch:=first|exact zz|fail) only[go_sem,hL.len,hL.idx,hL.load,hrow.len,hrow.idx,hrow.load];with_reducible rfl)))
    refine cond_p rfl (fun hlt2 => ?_) (fun hge2 => ?_)
    · have hj' : j < (ll.getD i []).length := by omega
      (repeat(first|refine yw ?_|((first|apply yd|apply ye);simp (disch:=first|exact zz|fail) only[go_sem,hL.len,hL.idx,hL.load,hrow.len,hrow.idx,hrow.load];with_reducible rfl)))
      refine aops_call_to (bwithin_c _ _ _) ?_
      (refine yg ?_)
      refine cond_n rfl (fun hout => ?_) (fun hin => ?_)
      · have e3 : gridRow (ll.getD 0 []).length (ll.getD i []) = 2 := by
          unfold gridRow
          rw [if_pos hw,all_false hj' (dec_f hout)]; rfl
        rw [e3,if_neg (by decide)] at hv
        (refine yg ?_)
        exact fin_1 ⟨by rw [e1,← hv]; rfl,rfl⟩
      · (refine yg ?_)
        refine ⟨by omega,rfl,by simp [forget],fun k hk => ?_⟩
        by_cases hkj : k = j
        · subst hkj; exact hin
        · exact hbef k (by omega)
    · have e3 : gridRow (ll.getD 0 []).length (ll.getD i []) = 0 := by
        have hall : (ll.getD i []).all (fun n => decide (0 ≤ n ∧ n ≤ 255)) = true := by
          rw [List.all_eq_true]
          intro x hx
          obtain ⟨k,hk,rfl⟩ := List.getElem_of_mem hx
          have := hbef k (by omega)
          rw [List.getD_eq_getElem?_getD,List.getElem?_eq_getElem hk] at this
          exact dec_t this
        unfold gridRow
        rw [if_pos hw,hall]; rfl
      rw [e3,if_pos rfl] at hv
      (refine yg ?_)
      exact ⟨by omega,rfl,by simp [forget],hv⟩
  · rw [gridGo_end (by omega)] at hv
    (refine yg ?_)
    exact fin_1 ⟨by rw [e1,← hv]; rfl,rfl⟩
def AsksAt (H : AHeap) (fv : Value) (p : Int → Bool) : Prop := ∀ n,AInvoke Go.Proofs.Tryz.prog fv [.int .i64 n] H fun v H' => v = .bool (p n) ∧ H' = H
theorem indexFuncAt_c {l : List Int} {v fv : Value} {p : Int → Bool} (hl : Ints H l v) (hf : AsksAt H fv p) (hb : l.length ≤ 1000000000) :
    ACall Go.Proofs.Tryz.prog 69 [v,fv] H fun v H' => (∃ i : Int,v = .int .i64 i ∧ (l.any p = decide (0 ≤ i))) ∧ H' = H := by
  (refine a69 ?_; simp only [n69,List.replicate,yq,yr,yt,yu]; first | refine q1 ?_ | refine q2 ?_ | refine q6 ?_ | refine q7 ?_ | refine qh rfl ?_ | skip)
  refine yx ?_; (refine aops_until (by simp (disch:=first|exact zz|fail) only[go_sem]; with_reducible rfl) ?_); refine yx ?_; (refine aops_until (by simp (disch:=first|exact zz|fail) only[go_sem,hl.len,hl.idx,hl.load]; with_reducible rfl) ?_); refine yx ?_
  refine awp_loop_n [true,true,false,false,true,false,true,true,true,false,false,false,false,false,false,false,false,false,false] l.length (fun i e H' => H' = H ∧ e = [v,fv,junk,junk,.int .i64 0,junk,v,.int .i64 l.length,.int .i64 i,junk,junk,junk,junk,junk,junk,junk,junk,junk,junk] ∧ ∀ j < i,p (l.getD j 0) = false) ?_ ?_
  · exact ⟨rfl,rfl,by omega⟩
  · rintro i e H' hi ⟨rfl,rfl,hp⟩
    refine yx ?_; (refine aops_until (by simp (disch:=first|exact zz|fail) only[go_sem,hl.len,hl.idx,hl.load]; with_reducible rfl) ?_); refine yx ?_
    refine cond_p rfl (fun hlt => ?_) (fun hge => ?_)
    · refine yx ?_; (refine aops_until (by simp (disch:=first|exact zz|fail) only[go_sem,hl.len,hl.idx,hl.load]; with_reducible rfl) ?_); refine yx ?_; (refine aops_until (by simp (disch:=first|exact zz|fail) only[go_sem,hl.len,hl.idx,hl.load]; with_reducible rfl) ?_)
      refine aops_call_to (hf _) ?_
      (refine aops_until (by simp (disch:=first|exact zz|fail) only[go_sem]; with_reducible rfl) ?_); refine yx ?_
      cases hq : p (l.getD i 0) with
      | true =>
        refine cond_t (by rw [← hq]; rfl) ?_
        refine yx ?_; (refine aops_until (by simp (disch:=first|exact zz|fail) only[go_sem]; with_reducible rfl) ?_); refine yx ?_
        refine fin_1 ⟨⟨i,rfl,?_⟩,rfl⟩
        rw [any_at (d := 0) (i := i) (by omega) hq]
        simp
      | false =>
        refine cond_f (by rw [← hq]; rfl) ?_
        refine yx ?_; (refine aops_until (by simp (disch:=first|exact zz|fail) only[go_sem]; with_reducible rfl) ?_); refine yx ?_
        refine ⟨by omega,rfl,?_,fun j hj => ?_⟩
        · simp [forget]
        · by_cases h : j = i
          · subst h; exact hq
          · exact hp j (by omega)
    · refine yx ?_; (refine aops_until (by simp (disch:=first|exact zz|fail) only[go_sem]; with_reducible rfl) ?_); refine yx ?_
      refine fin_1 ⟨⟨-1,rfl,?_⟩,rfl⟩
      rw [any_none (d := 0) fun j hj => hp j (by omega)]
      simp
theorem containsFuncAt_c {l : List Int} {v fv : Value} {p : Int → Bool} (hl : Ints H l v) (hf : AsksAt H fv p) (hb : l.length ≤ 1000000000) :
    ACall Go.Proofs.Tryz.prog 46 [v,fv] H fun v H' => v = .bool (l.any p) ∧ H' = H := by
  (refine a46 ?_; simp only [n46,List.replicate,yq,yr,yt,yu]; first | refine q1 ?_ | refine q2 ?_ | refine q6 ?_ | refine q7 ?_ | refine qh rfl ?_ | skip)
  refine yx ?_; (refine aops_until (by simp (disch:=first|exact zz|fail) only[go_sem]; with_reducible rfl) ?_); refine yx ?_; (refine aops_until (by simp (disch:=first|exact zz|fail) only[go_sem]; with_reducible rfl) ?_)
  refine aops_call ((indexFuncAt_c hl hf hb).mono fun v1 H1 ⟨⟨i,h1,h2⟩,h3⟩ => ?_)
  subst h1; subst h3
  (refine aops_until (by simp (disch:=first|exact zz|fail) only[go_sem]; with_reducible rfl) ?_); refine yx ?_
  refine fin_1 ⟨?_,rfl⟩
  simp [h2]
theorem gridErr1_c {id : Nat} {top : Int} (hc : H[id]? = some (.cells true 0 [.int .i64 top])) : AsksAt H (.func (.func 80) #[] #[.pointer (some ⟨id,0,none⟩)]) (fun n => !decide (0 ≤ n ∧ n ≤ top)) := fun n => by
  show ACall _ _ _ _ _
  simp only [List.append_nil,List.nil_append,List.cons_append]
  (refine a80 ?_; simp only [n80,List.replicate,yq,yr,yt,yu]; first | refine q1 ?_ | refine q2 ?_ | refine q6 ?_ | refine q7 ?_ | refine qh rfl ?_ | skip)
  (repeat(first|refine yw ?_|((first|apply yd|apply ye);simp (disch:=first|exact zz|fail) only[go_sem,load_at hc];with_reducible rfl)))
  refine aops_call_to (within_c _ _ _) ?_
  (refine yg ?_)
  exact fin_1 ⟨rfl,rfl⟩
theorem box_int {k : IntKind} {n : Int} : boxR (.int k n) H = some (.pointer (some ⟨H.length,0,none⟩),H ++ [.cells true 0 [.int k n]]) := rfl
theorem firstErr_gridRow (w : Nat) (r : List Int) : firstErr [if decide ((r.length : Int) = (w : Int)) = true then 0 else 10,if (!r.any fun n => !decide (0 ≤ n ∧ n ≤ 255)) = true then 0 else 2] = gridRow w r := by
  have e : (!r.any fun n => !decide (0 ≤ n ∧ n ≤ 255)) = r.all fun n => decide (0 ≤ n ∧ n ≤ 255) := by
    rw [← List.not_all_eq_any_not,Bool.not_not]
  rw [e]
  unfold firstErr gridRow
  by_cases h1 : r.length = w
  · have h1' : (r.length : Int) = w := by omega
    cases r.all fun n => decide (0 ≤ n ∧ n ≤ 255) <;> simp [h1]
  · have h1' : ¬ (r.length : Int) = w := by omega
    simp [h1,h1']
theorem gridErr_c {ll : List (List Int)} {vs : List Value} {v : Value} {rows cols : Int} (hL : Lists H ll vs v) (hb : ll.length ≤ 1000000000) (hr : ∀ i,i < ll.length → (ll.getD i []).length ≤ 1000000000) :
    ACall Go.Proofs.Tryz.prog 60 [v,.int .i64 rows,.int .i64 cols,.int .i64 255] H fun v1 H1 => v1 = .int .i64 (gridErrL rows cols ll) ∧ H1 = H := by
  refine ACall.drop (.int _ _) ?_
  (refine a60 ?_; simp only [n60,List.replicate,yq,yr,yt,yu]; first | refine q1 ?_ | refine q2 ?_ | refine q6 ?_ | refine q7 ?_ | refine qh rfl ?_ | skip)
  have z0 : (0 : Int).toNat = 0 := rfl
  have hbox : (H ++ [.cells true 0 [.int .i64 255]])[H.length]? = some (AObj.cells true 0 [.int .i64 255]) := at_new
  have xG : Ext H (H ++ [.cells true 0 [.int .i64 255]]) := (Ext.refl H).app _
  by_cases h0 : ll.length = 0
  · have e1 : gridErrL rows cols ll = 10 := by unfold gridErrL; rw [if_pos (.inl h0)]
    (repeat(first|refine yw ?_|((first|apply yd|apply ye);simp (disch:=first|exact zz|fail) only[go_sem,hL.len,hL.idx,hL.load,box_int,dec_t (show (ll.length : Int) = 0 by omega)];with_reducible rfl)))
    refine cond_t rfl ?_
    (refine yg ?_)
    exact fin_1 ⟨by rw [e1]; rfl,xG⟩
  have hrow0 := hL.row (k := 0) (by omega)
  by_cases h1 : (ll.getD 0 []).length = 0
  · have e1 : gridErrL rows cols ll = 10 := by unfold gridErrL; rw [if_pos (.inr h1)]
    (repeat(first|refine yw ?_|((first|apply yd|apply ye);simp (disch:=first|exact zz|fail) only[go_sem,hL.len,hL.idx,hL.load,hrow0.len,hrow0.idx,hrow0.load,box_int,z0,dec_f (show ¬ (ll.length : Int) = 0 by omega),dec_t (show ((ll.getD 0 []).length : Int) = 0 by omega)];with_reducible rfl)))
    refine cond_t rfl ?_
    (refine yg ?_)
    exact fin_1 ⟨by rw [e1]; rfl,xG⟩
  (repeat(first|refine yw ?_|((first|apply yd|apply ye);simp (disch:=first|exact zz|fail) only[go_sem,hL.len,hL.idx,hL.load,hrow0.len,hrow0.idx,hrow0.load,box_int,z0,dec_f (show ¬ (ll.length : Int) = 0 by omega),dec_f (show ¬ ((ll.getD 0 []).length : Int) = 0 by omega)];with_reducible rfl)))
  refine cond_f rfl ?_
  replace hL := hL.ext xG
  replace hrow0 := hrow0.ext xG
  generalize (H ++ [.cells true 0 [.int .i64 255]] : AHeap) = G at hbox xG hL hrow0
  have g0 : ¬ (ll.length = 0 ∨ (ll.getD 0 []).length = 0) := by omega
  by_cases h2 : rows < ll.length
  · have e1 : gridErrL rows cols ll = 8 := by unfold gridErrL; rw [if_neg g0,if_pos (.inl h2)]
    (repeat(first|refine yw ?_|((first|apply yd|apply ye);simp (disch:=first|exact zz|fail) only[go_sem,hL.len,hL.idx,hL.load,dec_t h2];with_reducible rfl)))
    refine cond_t rfl ?_
    (refine yg ?_)
    exact fin_1 ⟨by rw [e1]; rfl,xG⟩
  by_cases h3 : cols < (ll.getD 0 []).length
  · have e1 : gridErrL rows cols ll = 8 := by unfold gridErrL; rw [if_neg g0,if_pos (.inr h3)]
    (repeat(first|refine yw ?_|((first|apply yd|apply ye);simp (disch:=first|exact zz|fail) only[go_sem,hL.len,hL.idx,hL.load,hrow0.len,hrow0.idx,hrow0.load,z0,dec_f h2,dec_t h3];with_reducible rfl)))
    refine cond_t rfl ?_
    (refine yg ?_)
    exact fin_1 ⟨by rw [e1]; rfl,xG⟩
  (repeat(first|refine yw ?_|((first|apply yd|apply ye);simp (disch:=first|exact zz|fail) only[go_sem,hL.len,hL.idx,hL.load,hrow0.len,hrow0.idx,hrow0.load,z0,dec_f h2,dec_f h3];with_reducible rfl)))
  refine cond_f rfl ?_
  have e1 : gridErrL rows cols ll = gridGo (ll.getD 0 []).length ll := by unfold gridErrL; rw [if_neg g0,if_neg (by omega)]
  (repeat(first|refine yw ?_|((first|apply yd|apply ye);simp (disch:=first|exact zz|fail) only[go_sem,hL.len,hL.idx,hL.load];with_reducible rfl)))
  refine awp_loop_n [true,false,false,false,false,false,false,true,false,false,false,false,false,false,false,false,false,false,false,false,false,false,false,false,false,false,false,false,false,false,false,false,false,false,false,true,true,true,false,false,false,false,false,false,false,false,false,false,false,false,false,false,false,false,false,false,false,false,false,false,false] ll.length (fun i e H' => e = [v,junk,junk,junk,junk,junk,junk,.pointer (some ⟨H.length,0,none⟩),junk,junk,junk,junk,junk,junk,junk,junk,junk,junk,junk,junk,junk,junk,junk,junk,junk,junk,junk,junk,junk,junk,junk,junk,junk,junk,junk,v,.int .i64 ll.length,.int .i64 i,junk,junk,junk,junk,junk,junk,junk,junk,junk,junk,junk,junk,junk,junk,junk,junk,junk,junk,junk,junk,junk,junk,junk] ∧ Ext G H' ∧ gridGo (ll.getD 0 []).length (ll.drop i) = gridGo (ll.getD 0 []).length ll) ?_ ?_
  · exact ⟨by simp [forget],Ext.refl _,rfl⟩
  rintro i e H1 hi ⟨rfl,hx,hv⟩
  have hL1 := hL.ext hx
  have hrow01 := hrow0.ext hx
  have hbox1 : H1[H.length]? = some (AObj.cells true 0 [.int .i64 255]) := by obtain ⟨N,rfl⟩ := hx; exact at_app hbox
  (refine yg ?_)
  refine cond_p rfl (fun hlt => ?_) (fun hge => ?_)
  · have hi' : i < ll.length := by omega
    have hrow := hL1.row hi'
    have hrl := hr i hi'
    rw [gridGo_step hi'] at hv
    (repeat(first|refine yw ?_|((first|apply yd|apply ye);simp (disch:=first|exact zz|fail) only[go_sem,hL1.len,hL1.idx,hL1.load];with_reducible rfl)))
    refine aops_call_to (containsFuncAt_c hrow (gridErr1_c hbox1) (by omega)) ?_
    (repeat(first|refine yw ?_|((first|apply yd|apply ye);simp (disch:=first|exact zz|fail) only[go_sem,hL1.len,hL1.idx,hL1.load,hrow.len,hrow.idx,hrow.load,hrow01.len,hrow01.idx,hrow01.load,z0];with_reducible rfl)))
    refine aops_call_to (unless_c _ _) ?_
    (refine yg ?_)
    refine aops_call_to (unless_c _ _) ?_
    (refine yg ?_)
    refine aops_call_to (first_c (l := [_,_]) (Ints.last (l := [_,_]) 2) (by simp)) ?_
    rw [firstErr_gridRow]
    (refine yg ?_)
    refine cond_p rfl (fun hne => ?_) (fun heq => ?_)
    · rw [if_neg hne] at hv
      (refine yg ?_)
      exact fin_1 ⟨by rw [e1,← hv]; rfl,(xG.trans hx).app _⟩
    · rw [if_pos (Decidable.not_not.1 heq)] at hv
      (refine yg ?_)
      exact ⟨by omega,by simp [forget],hx.app _,hv⟩
  · rw [gridGo_end (by omega)] at hv
    (refine yg ?_)
    exact fin_1 ⟨by rw [e1,← hv]; rfl,xG.trans hx⟩
end
end Go.Lq

namespace Go.Lq
open Go
open Go.Proofs
section
variable {H : AHeap}
theorem Lists.atom {ll : List (List Int)} {vs : List Value} {v : Value} (h : Lists H ll vs v) : isAtom v = true := by
  rcases h.1.2 with ⟨rfl,_⟩ | ⟨id,off,c,rfl,_⟩ <;> rfl
theorem Lists.box {ll : List (List Int)} {vs : List Value} {v : Value} (h : Lists H ll vs v) {H' : AHeap} : boxR (.agg ⟨[v]⟩) H' = some (.pointer (some ⟨H'.length,0,none⟩),H' ++ [.cells true 0 [v]]) :=
  box_agg (by simp [h.atom])
theorem checkImage_c {ll : List (List Int)} {vs : List Value} {v : Value} (hL : Lists H ll vs v) (hb : ll.length ≤ 1000000000) (hr : ∀ i,i < ll.length → (ll.getD i []).length ≤ 1000000000) :
    ACall Go.Proofs.Tryz.prog 31 [.agg ⟨[v]⟩] H fun v1 H1 => v1 = .int .i64 (gridErrL 24 24 ll) ∧ H1 = H := by
  refine ACall.drop (.int _ _) ?_
  (refine a31 ?_; simp only [n31,List.replicate,yq,yr,yt,yu]; first | refine q1 ?_ | refine q2 ?_ | refine q6 ?_ | refine q7 ?_ | refine qh rfl ?_ | skip)
  (repeat(first|refine yw ?_|((first|apply yd|apply ye);simp (disch:=first|exact zz|fail) only[go_sem,hL.box,load_new];with_reducible rfl)))
  refine aops_call_to (gridErr_c (hL.ext ((Ext.refl _).app _)) hb hr) ?_
  (refine yg ?_)
  exact fin_1 ⟨rfl,(Ext.refl _).app _⟩
theorem copyImage_c {ll : List (List Int)} {vs : List Value} {v : Value} (hL : Lists H ll vs v) (hb : ll.length ≤ 1000000) (hr : ∀ i,i < ll.length → (ll.getD i []).length ≤ 1000000) :
    ACall Go.Proofs.Tryz.prog 8 [.agg ⟨[v]⟩] H fun w H' => ∃ v',w = .agg ⟨[v']⟩ ∧ OwnL H H' ll v' ∧ Ext H H' := by
  (refine a8 ?_; simp only [n8,List.replicate,yq,yr,yt,yu]; first | refine q1 ?_ | refine q2 ?_ | refine q6 ?_ | refine q7 ?_ | refine qh rfl ?_ | skip)
  (repeat(first|refine yw ?_|((first|apply yd|apply ye);simp (disch:=first|exact zz|fail) only[go_sem,hL.box,load_new,load_peel];with_reducible rfl)))
  have xG : Ext H (H ++ [AObj.cells true 0 [v]] ++ [AObj.cells true 0 [Value.slice none 0 0]]) := ((Ext.refl _).app _).app _
  have hbox : (H ++ [AObj.cells true 0 [v]] ++ [AObj.cells true 0 [Value.slice none 0 0]])[(H ++ [AObj.cells true 0 [v]]).length]? = some (AObj.cells true 0 [Value.slice none 0 0]) := at_new
  have hk : (H ++ [AObj.cells true 0 [v]]).length < (H ++ [AObj.cells true 0 [v]] ++ [AObj.cells true 0 [Value.slice none 0 0]]).length := by simp
  have hk0 : H.length ≤ (H ++ [AObj.cells true 0 [v]]).length := by simp
  refine aops_call ((copyLists_c (hL.ext xG) hb hr).mono fun v1 H1 ⟨ho,hx⟩ => ?_)
  generalize (H ++ [AObj.cells true 0 [v]] ++ [AObj.cells true 0 [Value.slice none 0 0]]) = G at xG hbox hk ho hx
  generalize (H ++ [AObj.cells true 0 [v]]).length = k at hbox hk hk0
  have hbox1 : H1[k]? = some (AObj.cells true 0 [Value.slice none 0 0]) := by obtain ⟨N,rfl⟩ := hx; exact at_app hbox
  obtain ⟨a,n,c,rfl⟩ : ∃ a n c,v1 = .slice a n c := by
    obtain ⟨vs,ho,_⟩ := ho
    rcases ho.2 with ⟨rfl,_⟩ | ⟨id,rfl,_⟩ <;> exact ⟨_,_,_,rfl⟩
  (repeat(first|refine yw ?_|((first|apply yd|apply ye);simp (disch:=first|exact zz|fail) only[go_sem,fillA_slice,store_one hbox1 (isAtom_slice a n c)];with_reducible rfl)))
  have hlt : k < H1.length := (List.getElem?_eq_some_iff.1 hbox1).1
  refine fin_l1 (u := .agg ⟨[.slice a n c]⟩) ?_ ?_
  · exact loadN_at (vs := [.slice a n c]) (List.getElem?_set_self hlt) (by simp)
  · exact ⟨_,rfl,(ho.set hk _).weaken xG.len,(xG.trans hx).set hk0 _⟩
end
end Go.Lq

namespace Go.Lq
open Go
open Go.Proofs
/-! ### Small rules -/
theorem store_new1 {H : AHeap} {e : Nat} {x : Value} {n : Int} : storeR 1 (.pointer (some ⟨H.length,0,none⟩)) (.int .i64 n) (H ++ [.cells true e [x]]) = some (undef,H ++ [.cells true e [.int .i64 n]]) := by
  have := store_one (H := H ++ [.cells true e [x]]) (id := H.length) (x := x) (y := .int .i64 n) (e := e) (by simp) rfl
  have e1 : (Value.agg ⟨[.int .i64 n]⟩).cells = (Value.int .i64 n).cells := rfl
  simp only [storeR,e1] at this ⊢
  rw [this,List.set_append_right _ _ (Nat.le_refl _),Nat.sub_self]; rfl
theorem store_new3 {H : AHeap} {e : Nat} {x y z : Value} {a b c : Int} : storeR 3 (.pointer (some ⟨H.length,0,none⟩)) (.agg ⟨[.int .i64 a,.int .i64 b,.int .i64 c]⟩) (H ++ [.cells true e [x,y,z]]) =
    some (undef,H ++ [.cells true e [.int .i64 a,.int .i64 b,.int .i64 c]]) := store_new (us := [.int .i64 a,.int .i64 b,.int .i64 c]) rfl rfl
theorem store_at2 {H : AHeap} {id e : Nat} {x y : Value} {a b : Int} (h : H[id]? = some (.cells true e [x,y])) : storeR 2 (.pointer (some ⟨id,0,none⟩)) (.agg ⟨[.int .i64 a,.int .i64 b]⟩) H = some (undef,H.set id (.cells true e [.int .i64 a,.int .i64 b])) := by
  have e1 : (Value.agg ⟨[.int .i64 a,.int .i64 b]⟩).cells = ⟨[.int .i64 a,.int .i64 b]⟩ := rfl
  simp only [storeR,e1,List.size_toArray,storeAt,h]
  rfl
theorem store_at1 {H : AHeap} {id e : Nat} {x y : Value} (h : H[id]? = some (.cells true e [x])) (ha : isAtom y = true) (hc : y.cells = ⟨[y]⟩) : storeR 1 (.pointer (some ⟨id,0,none⟩)) y H = some (undef,H.set id (.cells true e [y])) := by
  have := store_one h ha
  have e1 : (Value.agg ⟨[y]⟩).cells = y.cells := by rw [hc]; rfl
  simp only [storeR,e1] at this ⊢
  exact this
attribute [go_sem] store_new1 store_new3 box_int
def idxANR (len size : Nat) (x i : Value) (H : AHeap) : Option (Value × AHeap) :=
  match x,i with | .agg cs,.int _ n => if 0 ≤ n ∧ n < len then some (.agg (cs.extract (n.toNat * size) (n.toNat * size + size)),H) else none | _,_ => none
theorem r_idxAN {ρ : Operand → Value} {H : AHeap} {len size : Nat} {x y : Operand} : ropRun (.idxAN len size x y) ρ H = idxANR len size (ρ x) (ρ y) H := rfl
attribute [go_sem] r_idxAN
/-! ### The points of a ring -/
def walkP (p d : Int × Int) : Nat → List (Int × Int)
  | 0 => []
  | n + 1 => p :: walkP (p.1 + d.1,p.2 + d.2) d n
def sidesL : List (Int × Int × Nat) := [(0,1,1),(-1,0,2),(0,-1,2),(1,0,2),(0,1,1)]
def sidesGo (r : Nat) : Int × Int → List (Int × Int × Nat) → List (Int × Int)
  | _,[] => []
  | p,s :: t => walkP p (s.1,s.2.1) (s.2.2 * r) ++ sidesGo r (p.1 + (s.2.2 * r : Nat) * s.1,p.2 + (s.2.2 * r : Nat) * s.2.1) t
def ringP (x y : Int) (r : Nat) : List (Int × Int) := sidesGo r (x + r,y) sidesL
def sideCells : List Value := [.int .i64 0,.int .i64 1,.int .i64 1,.int .i64 (-1),.int .i64 0,.int .i64 2,.int .i64 0,.int .i64 (-1),.int .i64 2,.int .i64 1,.int .i64 0,.int .i64 2,.int .i64 0,.int .i64 1,.int .i64 1]
theorem idxAN_side {i : Nat} (h : i < 5) {H : AHeap} : idxANR 5 3 (.agg ⟨sideCells⟩) (.int .i64 (i : Int)) H =
    some (.agg ⟨[.int .i64 (sidesL.getD i (0,0,0)).1,.int .i64 (sidesL.getD i (0,0,0)).2.1,.int .i64 ((sidesL.getD i (0,0,0)).2.2 : Nat)]⟩,H) := by
  match i,h with
  | 0,_ => rfl
  | 1,_ => rfl
  | 2,_ => rfl
  | 3,_ => rfl
  | 4,_ => rfl
theorem side_bound {i : Nat} (h : i < 5) : let s := sidesL.getD i (0,0,0); -1 ≤ s.1 ∧ s.1 ≤ 1 ∧ -1 ≤ s.2.1 ∧ s.2.1 ≤ 1 ∧ s.2.2 ≤ 2 := by
  match i,h with
  | 0,_ => decide
  | 1,_ => decide
  | 2,_ => decide
  | 3,_ => decide
  | 4,_ => decide
def ptsV (l : List (Int × Int)) : List (List Value) := l.map fun p => [.agg ⟨[.int .i64 p.1,.int .i64 p.2]⟩]
def SidesAt (H : AHeap) : Prop := H[0]? = some (.cells false 3 sideCells)
def RingFact (idc idr : Nat) (x y : Int) (r : Nat) (H : AHeap) : Prop :=
  SidesAt H ∧ H[idc]? = some (.cells true 0 [.int .i64 x,.int .i64 y]) ∧ H[idr]? = some (.cells true 0 [.int .i64 r])
theorem mul_small {a : Int} {k m : Nat} (ha : -1 ≤ a) (ha' : a ≤ 1) (hk : k ≤ m) : -(m : Int) ≤ k * a ∧ k * a ≤ m := by
  obtain rfl | rfl | rfl : a = -1 ∨ a = 0 ∨ a = 1 := by omega
  · omega
  · omega
  · omega
theorem ring1_c {idc idr : Nat} {x y : Int} {r : Nat} (hx : -1000 ≤ x ∧ x ≤ 1000) (hy : -1000 ≤ y ∧ y ≤ 1000) (hr : r ≤ 24) :
    GenB Go.Proofs.Tryz.prog 81 [] [.pointer (some ⟨idc,0,none⟩),.pointer (some ⟨idr,0,none⟩)] (RingFact idc idr x y r) (ptsV (ringP x y r)) := by
  intro l I S H hF happ hpriv hset hround h0
  show ACall _ _ [.func (.yield l) #[] #[],.pointer (some ⟨idc,0,none⟩),.pointer (some ⟨idr,0,none⟩)] _ _
  obtain ⟨f1,f2,f3⟩ := hF _ _ _ h0
  have l0 : loadNR 15 (.pointer (some ⟨0,0,none⟩)) (H ++ [AObj.cells true 0 [.int .i64 (x + r),.int .i64 y]]) = some (.agg ⟨sideCells⟩,H ++ [AObj.cells true 0 [.int .i64 (x + r),.int .i64 y]]) := loadN_at (at_app f1) (by decide)
  (refine a81 ?_; simp only [n81,List.replicate,yq,yr,yt,yu]; first | refine q1 ?_ | refine q2 ?_ | refine q6 ?_ | refine q7 ?_ | refine qh rfl ?_ | skip)
  (repeat(first|refine yw ?_|((first|apply yd|apply ye);simp (disch:=first|exact zz|fail) only[go_sem,load_at f2,load_at f3,l0];with_reducible rfl)))
  have hB0 := hpriv _ _ _ (AObj.cells true 0 [.int .i64 (x + r),.int .i64 y]) h0
  have hc0 : (H ++ [AObj.cells true 0 [.int .i64 (x + r),.int .i64 y]])[H.length]? = some (AObj.cells true 0 [.int .i64 (x + r),.int .i64 y]) := at_new
  generalize H ++ [AObj.cells true 0 [.int .i64 (x + r),.int .i64 y]] = G at hB0 hc0
  refine awp_loop_n [true,true,true,false,true,false,false,false,false,false,false,false,false,false,true,true,false,false,false,false,false,false,false,false,false,false,false,false,false,false,false,false,false,false,false,false,false,false,false,false,false] 5 (fun i e H' => ∃ B p,e = [.func (.yield l) #[] #[],.pointer (some ⟨idc,0,none⟩),.pointer (some ⟨idr,0,none⟩),junk,.pointer (some ⟨H.length,0,none⟩),junk,junk,junk,junk,junk,junk,junk,junk,junk,.agg ⟨sideCells⟩,.int .i64 i,junk,junk,junk,junk,junk,junk,junk,junk,junk,junk,junk,junk,junk,junk,junk,junk,junk,junk,junk,junk,junk,junk,junk,junk,junk] ∧
    B H.length ∧ H'[H.length]? = some (.cells true 0 [.int .i64 p.1,.int .i64 p.2]) ∧ I B (ptsV (sidesGo r p (sidesL.drop i))) H' ∧ -2000 - 48 * (i : Int) ≤ p.1 ∧ p.1 ≤ 2000 + 48 * (i : Int) ∧ -2000 - 48 * (i : Int) ≤ p.2 ∧ p.2 ≤ 2000 + 48 * (i : Int)) ?_ ?_
  · exact ⟨_,(x + r,y),by simp [forget],.inr rfl,hc0,hB0,by omega,by omega,by omega,by omega⟩
  rintro i e H1 hi ⟨B,p,rfl,hB,hc,hI,p1,p2,p3,p4⟩
  (refine yg ?_)
  refine cond_p rfl (fun hlt => ?_) (fun hge => ?_)
  rotate_left 1
  · have : i = 5 := by omega
    subst this
    (refine yg ?_)
    refine ⟨.inl rfl,undef,rfl,.inl ⟨B,hI⟩⟩
  have hi5 : i < 5 := by omega
  obtain ⟨f1',f2',f3'⟩ := hF _ _ _ hI
  obtain ⟨b1,b2,b3,b4,b5⟩ := side_bound hi5
  have hix := idxAN_side hi5 (H := H1)
  rw [show sidesL.drop i = sidesL.getD i (0,0,0) :: sidesL.drop (i + 1) from drop_getD hi5] at hI
  generalize sidesL.getD i (0,0,0) = s at b1 b2 b3 b4 b5 hI hix
  obtain ⟨n,hn⟩ : ∃ n,n = s.2.2 * r := ⟨_,rfl⟩
  have hn48 : n ≤ 48 := by rw [hn]; exact Nat.le_trans (Nat.mul_le_mul b5 hr) (by decide)
  have hnI : (s.2.2 : Int) * (r : Int) = (n : Int) := by rw [hn]; simp
  rw [show sidesGo r p (s :: sidesL.drop (i + 1)) = walkP p (s.1,s.2.1) n ++ sidesGo r (p.1 + (n : Int) * s.1,p.2 + (n : Int) * s.2.1) (sidesL.drop (i + 1)) by rw [hn]; rfl] at hI
  have hl3 : idr < H1.length := (List.getElem?_eq_some_iff.1 f3').1
  (repeat(first|refine yw ?_|((first|apply yd|apply ye);simp (disch:=first|exact zz|fail) only[go_sem,hix,load_at f3',hnI];with_reducible rfl)))
  have hk6 : H.length ≠ H1.length := by have := (List.getElem?_eq_some_iff.1 hc).1; omega
  have hI6 := hpriv _ _ _ (AObj.cells true 0 [.int .i64 s.1,.int .i64 s.2.1,.int .i64 (s.2.2 : Nat)]) hI
  have hc6 : (H1 ++ [AObj.cells true 0 [.int .i64 s.1,.int .i64 s.2.1,.int .i64 (s.2.2 : Nat)]])[H1.length]? = some (AObj.cells true 0 [.int .i64 s.1,.int .i64 s.2.1,.int .i64 (s.2.2 : Nat)]) := at_new
  replace hc := at_app (N := [AObj.cells true 0 [.int .i64 s.1,.int .i64 s.2.1,.int .i64 (s.2.2 : Nat)]]) hc
  generalize H1 ++ [AObj.cells true 0 [.int .i64 s.1,.int .i64 s.2.1,.int .i64 (s.2.2 : Nat)]] = G1 at hI6 hc6 hc
  generalize H1.length = k6 at hk6 hI6 hc6
  obtain ⟨B',hI6,hB',hB6⟩ : ∃ B' : Nat → Prop,I B' (ptsV (walkP p (s.1,s.2.1) n ++ sidesGo r (p.1 + (n : Int) * s.1,p.2 + (n : Int) * s.2.1) (sidesL.drop (i + 1)))) G1 ∧ B' H.length ∧ B' k6 := ⟨_,hI6,.inl hB,.inr rfl⟩
  clear hI hB
  refine awp_loop_n [true,true,true,false,true,false,true,false,false,false,false,false,false,false,true,true,false,false,false,false,false,true,true,false,false,false,false,false,false,false,false,false,false,false,false,false,false,false,false,false,false] n (fun j e H' => e = [.func (.yield l) #[] #[],.pointer (some ⟨idc,0,none⟩),.pointer (some ⟨idr,0,none⟩),junk,.pointer (some ⟨H.length,0,none⟩),junk,.pointer (some ⟨k6,0,none⟩),junk,junk,junk,junk,junk,junk,junk,.agg ⟨sideCells⟩,.int .i64 i,junk,junk,junk,junk,junk,.int .i64 n,.int .i64 j,junk,junk,junk,junk,junk,junk,junk,junk,junk,junk,junk,junk,junk,junk,junk,junk,junk,junk] ∧
    H'[H.length]? = some (.cells true 0 [.int .i64 (p.1 + (j : Int) * s.1),.int .i64 (p.2 + (j : Int) * s.2.1)]) ∧ H'[k6]? = some (AObj.cells true 0 [.int .i64 s.1,.int .i64 s.2.1,.int .i64 (s.2.2 : Nat)]) ∧
    I B' (ptsV (walkP (p.1 + (j : Int) * s.1,p.2 + (j : Int) * s.2.1) (s.1,s.2.1) (n - j) ++ sidesGo r (p.1 + (n : Int) * s.1,p.2 + (n : Int) * s.2.1) (sidesL.drop (i + 1)))) H') ?_ ?_
  · exact ⟨by simp [forget],by simpa using hc,hc6,by simpa using hI6⟩
  rintro j e H2 hj ⟨rfl,hc2,hc62,hI2⟩
  (refine yg ?_)
  refine cond_p rfl (fun hlt2 => ?_) (fun hge2 => ?_)
  rotate_left 1
  · have : j = n := by omega
    subst this
    rw [Nat.sub_self] at hI2
    have m1 := mul_small b1 b2 hn48
    have m2 := mul_small b3 b4 hn48
    (refine yg ?_)
    exact ⟨by omega,B',(p.1 + (j : Int) * s.1,p.2 + (j : Int) * s.2.1),by simp [forget],hB',hc2,hI2,by simp only; omega,by simp only; omega,by simp only; omega,by simp only; omega⟩
  have hj' : j < n := by omega
  have m1 := mul_small b1 b2 (show j ≤ 48 by omega)
  have m2 := mul_small b3 b4 (show j ≤ 48 by omega)
  rw [show n - j = (n - (j + 1)) + 1 by omega] at hI2
  (repeat(first|refine yw ?_|((first|apply yd|apply ye);simp (disch:=first|exact zz|fail) only[go_sem,loadN_at (n := 2) (k := 0) hc2 (by simp)];with_reducible rfl)))
  refine aops_call ((hround _ _ _ _ hI2).mono fun v H3 h => ?_)
  have s1 : p.1 + (j : Int) * s.1 + s.1 = p.1 + ((j + 1 : Nat) : Int) * s.1 := by push_cast; rw [Int.add_mul,Int.one_mul,Int.add_assoc]
  have s2 : p.2 + (j : Int) * s.2.1 + s.2.1 = p.2 + ((j + 1 : Nat) : Int) * s.2.1 := by push_cast; rw [Int.add_mul,Int.one_mul,Int.add_assoc]
  rcases h with ⟨rfl,hI3,hp3⟩ | ⟨rfl,hS⟩
  · have hc3 := hp3 _ _ hB' hc2
    have hc63 := hp3 _ _ hB6 hc62
    (refine yg ?_)
    refine cond_f rfl ?_
    (repeat(first|refine yw ?_|((first|apply yd|apply ye);simp (disch:=first|exact zz|fail) only[go_sem,load_at hc3,load_at hc63,s1,s2,store_at2 hc3];with_reducible rfl)))
    refine ⟨by omega,by simp [forget],get_set_self hc3,?_,?_⟩
    · rw [List.getElem?_set_ne hk6]; exact hc63
    · rw [← s1,← s2]
      exact hset _ _ _ _ _ hB' hI3
  · (refine yg ?_)
    refine cond_t rfl ?_
    (refine yg ?_)
    exact ⟨.inr rfl,undef,rfl,.inr hS⟩
end Go.Lq
namespace Go.Lq
open Go
open Go.Proofs
theorem walkP_mem {d : Int × Int} : ∀ {n : Nat} {q p : Int × Int},p ∈ walkP q d n → ∃ j : Nat,j < n ∧ p.1 = q.1 + j * d.1 ∧ p.2 = q.2 + j * d.2
  | 0,q,p,h => by simp [walkP] at h
  | n + 1,q,p,h => by
    rcases List.mem_cons.1 h with rfl | h
    · exact ⟨0,by omega,by simp,by simp⟩
    · obtain ⟨j,h1,h2,h3⟩ := walkP_mem h
      refine ⟨j + 1,by omega,?_,?_⟩
      · rw [h2]; push_cast; rw [Int.add_mul]; omega
      · rw [h3]; push_cast; rw [Int.add_mul]; omega
theorem walkP_len (q d : Int × Int) : ∀ n,(walkP q d n).length = n
  | 0 => rfl
  | n + 1 => by simp [walkP,walkP_len]
theorem ringP_mem {x y : Int} {r : Nat} {p : Int × Int} (h : p ∈ ringP x y r) : x - r ≤ p.1 ∧ p.1 ≤ x + r ∧ y - r ≤ p.2 ∧ p.2 ≤ y + r := by
  simp only [ringP,sidesL,sidesGo,List.mem_append,List.not_mem_nil,or_false] at h
  rcases h with h | h | h | h | h <;>
  · obtain ⟨j,h1,h2,h3⟩ := walkP_mem h
    simp only [Int.mul_zero,Int.mul_one,Int.mul_neg,Int.add_zero] at h2 h3
    omega
theorem ringP_len (x y : Int) (r : Nat) : (ringP x y r).length = 8 * r := by
  simp only [ringP,sidesL,sidesGo,List.length_append,walkP_len,List.length_nil]
  omega
def pix (ll : List (List Int)) (p : Int × Int) : Int := (ll.getD p.2.toNat []).getD p.1.toNat 0
def RingIn (ll : List (List Int)) (x y : Int) (r : Nat) : Prop :=
  ll.length ≤ 24 ∧ (∀ i,i < ll.length → (ll.getD i []).length = (ll.getD 0 []).length) ∧ (ll.getD 0 []).length ≤ 24 ∧ (r : Int) ≤ x ∧ x ≤ (ll.getD 0 []).length - 1 - r ∧ (r : Int) ≤ y ∧ y ≤ ll.length - 1 - r
section
variable {H : AHeap}
theorem ring_c {cx cy r : Int} : ACall Go.Proofs.Tryz.prog 62 [.agg ⟨[.int .i64 cx,.int .i64 cy]⟩,.int .i64 r] H fun v H' =>
    v = .func (.func 81) #[] #[.pointer (some ⟨H.length,0,none⟩),.pointer (some ⟨H.length + 1,0,none⟩)] ∧ H' = H ++ [.cells true 0 [.int .i64 cx,.int .i64 cy]] ++ [.cells true 0 [.int .i64 r]] := by
  (refine a62 ?_; simp only [n62,List.replicate,yq,yr,yt,yu]; first | refine q1 ?_ | refine q2 ?_ | refine q6 ?_ | refine q7 ?_ | refine qh rfl ?_ | skip)
  (refine yg ?_)
  refine fin_1 ⟨?_,rfl⟩
  simp [go_sem]
theorem ringOf_c {ll : List (List Int)} {vs : List Value} {v : Value} {x y : Int} {r : Nat} (hs : SidesAt H) (hL : Lists H ll vs v) (hr : r ≤ 24) (hin : RingIn ll x y r) :
    ACall Go.Proofs.Tryz.prog 34 [.agg ⟨[v]⟩,.agg ⟨[.int .i64 x,.int .i64 y]⟩,.int .i64 r] H (IntsRet H ((ringP x y r).map (pix ll))) := by
  refine ACall.ints ?_
  obtain ⟨i1,i2,i3,i4,i5,i6,i7⟩ := hin
  (refine a34 ?_; simp only [n34,List.replicate,yq,yr,yt,yu]; first | refine q1 ?_ | refine q2 ?_ | refine q6 ?_ | refine q7 ?_ | refine qh rfl ?_ | skip)
  (repeat(first|refine yw ?_|((first|apply yd|apply ye);simp (disch:=first|exact zz|fail) only[go_sem,hL.box];with_reducible rfl)))
  refine aops_call (ring_c.mono fun v1 H1 ⟨e1,e2⟩ => ?_)
  subst e1
  obtain ⟨im,him⟩ : ∃ im,im = H.length := ⟨_,rfl⟩
  have g0 : H1[im]? = some (.cells true 0 [v]) := by rw [e2,him]; exact at_app (at_app (at_app (at_app at_new)))
  have g1 : H1[H.length + 2]? = some (.cells true 0 [.slice none 0 0]) := by rw [e2]; refine at_app (at_app ?_); simp
  have g2 : H1[H.length + 3]? = some (.cells true 0 [.int .i64 x,.int .i64 y]) := by rw [e2]; refine at_app ?_; simp
  have g3 : H1[H.length + 4]? = some (.cells true 0 [.int .i64 r]) := by rw [e2]; simp
  have xG : Ext H H1 := by rw [e2]; exact (((((Ext.refl H).app _).app _).app _).app _).app _
  have len1 : H1.length = H.length + 5 := by rw [e2]; simp
  clear e2
  subst him
  (simp only [List.length_append,List.length_cons,List.length_nil,Nat.zero_add,Nat.add_assoc,Nat.reduceAdd])
  refine yx ?_
  refine awp_rangeB mo rfl (fun l h => by cases h) (ring1_c (x := x) (y := y) (r := r) (idc := H.length + 3) (idr := H.length + 4) (by omega) (by omega) hr)
    (fun B rest H' => (∀ b,B b → H1.length < b ∧ b < H'.length) ∧ Keeps (H.length + 2) H1 H' ∧ ∃ out v' tl,rest = ptsV tl ∧ H'[H.length + 2]? = some (.cells true 0 [v']) ∧ OwnI H H' out v' ∧
      (out.length = 0 ∨ (H1.length < idOf v' ∧ idOf v' < H'.length ∧ ¬ B (idOf v'))) ∧ out ++ tl.map (pix ll) = (ringP x y r).map (pix ll) ∧ ∀ p ∈ tl,p ∈ ringP x y r)
    (fun _ _ => False) ?_ (fun _ _ _ h => h.elim) ?_ ?_ ?_ ?_ ?_ ?_ ?_ (fun _ _ _ h => h.elim)
  · rintro B rest H' c ⟨hB,hk,out,v',tl,h1,h2,h3,h4,h5,h6⟩
    refine ⟨fun b hb => by simpa using hB b hb,hk.set (.inr (Nat.le_refl _)) _,out,v',tl,h1,by rw [List.getElem?_set_ne (by omega)]; exact h2,h3.set_ne (by omega) _,by simpa using h4,h5,h6⟩
  · rintro B rest H' ⟨hB,hk,_⟩
    refine ⟨?_,hk.get g2 (by omega),hk.get g3 (by omega)⟩
    have h0 : 0 < H.length := (List.getElem?_eq_some_iff.1 hs).1
    have e0 : H1[0]? = some (.cells false 3 sideCells) := (xG.get h0).trans hs
    exact hk.get e0 (by omega)
  · rintro B rest H' N ⟨hB,hk,out,v',tl,h1,h2,h3,h4,h5,h6⟩
    exact ⟨fun b hb => by have := hB b hb; simp; omega,hk.app _,out,v',tl,h1,at_app h2,h3.app _,h4.imp_right fun ⟨a,b,c⟩ => ⟨a,by simp; omega,c⟩,h5,h6⟩
  · rintro B rest H' c ⟨hB,hk,out,v',tl,h1,h2,h3,h4,h5,h6⟩ hl
    refine ⟨fun b hb => ?_,hk.app _,out,v',tl,h1,at_app h2,h3.app _,h4.imp_right fun ⟨a,b,c⟩ => ⟨a,by simp; omega,fun h => h.elim c (by omega)⟩,h5,h6⟩
    rcases hb with hb | rfl
    · have := hB b hb; simp; omega
    · simp; exact hl
  · rintro B b rest H' c hb ⟨hB,hk,out,v',tl,h1,h2,h3,h4,h5,h6⟩
    have hb' := hB b hb
    refine ⟨fun b hb => by simpa using hB b hb,hk.set (.inr (by omega)) _,out,v',tl,h1,by rw [List.getElem?_set_ne (by omega)]; exact h2,h3.set_ne ?_ _,by simpa using h4,h5,h6⟩
    rcases h4 with h4 | ⟨_,_,h4⟩
    · exact .inl h4
    · exact .inr fun e => h4 (e ▸ hb)
  · intro N
    refine ⟨fun b hb => hb.elim,(Keeps.of_ext (Ext.refl _)).app _,[],.slice none 0 0,ringP x y r,rfl,at_app g1,OwnI.nil _ _,.inl rfl,rfl,fun _ h => h⟩
  · rintro B a rest H2 hBl ⟨hB,hk,out,v',tl,h1,h2,h3,h4,h5,h6⟩ hlt
    match tl,h1 with
    | p :: tl,h1 =>
    obtain ⟨rfl,rfl⟩ := List.cons.inj h1
    refine ⟨rfl,fun R Rb _ hR => ?_⟩
    have ip := ringP_mem (h6 p (by simp))
    have hb2 : out.length ≤ 192 := by
      have e := congrArg List.length h5
      simp [ringP_len] at e; omega
    simp only [assignParams,List.zip_cons_cons,List.zip_nil_left,List.foldl_cons,List.foldl_nil]
    (refine yg ?_)
    refine ⟨rfl,at_app hR,?_⟩
    have l0 := (List.getElem?_eq_some_iff.1 h2).1
    obtain ⟨G,hG⟩ : ∃ G,G = (H2 ++ [AObj.cells true 0 [.int .i64 p.1,.int .i64 p.2]]).set H1.length Rb := ⟨_,rfl⟩
    have lG : G.length = H2.length + 1 := by rw [hG]; simp
    have k1 : Keeps (H.length + 2) H1 G := by rw [hG]; exact (hk.app _).set (.inr (Nat.le_refl _)) _
    have k2 : G[H.length + 2]? = some (.cells true 0 [v']) := by rw [hG,List.getElem?_set_ne (by omega)]; exact at_app h2
    have k3 : OwnI H G out v' := by rw [hG]; exact (h3.app _).set_ne (by omega) _
    have k4 : G[H.length]? = some (.cells true 0 [v]) := k1.get g0 (by omega)
    have k5 : G[H2.length]? = some (.cells true 0 [.int .i64 p.1,.int .i64 p.2]) := by rw [hG,List.getElem?_set_ne (by omega)]; exact at_new
    have k6 : G[H1.length]? = some Rb := by rw [hG]; exact get_set_self (at_app hR)
    have xg : Ext H G := k1.ext xG (by omega)
    have kB : ∀ b c,B b → H2[b]? = some c → G[b]? = some c := fun b c hb hc => by rw [hG,List.getElem?_set_ne (by have := hB b hb; omega)]; exact at_app hc
    rw [← hG]
    clear hG
    have hLg := hL.ext xg
    have hy : p.2.toNat < ll.length := by omega
    have hrow := hLg.row hy
    have hwid := i2 _ hy
    have hpush := k3.push (by omega) ((ll.getD p.2.toNat []).getD p.1.toNat 0)
    have hne : v' = .slice none 0 0 ∨ idOf v' ≠ H.length + 2 := k3.nil_or (by omega)
    have hst := store_at1 (y := pushV G out.length) (pushH_at (x := (ll.getD p.2.toNat []).getD p.1.toNat 0) (l := out) k2 hne) rfl rfl
    (repeat(first|refine yw ?_|((first|apply yd|apply ye);simp (disch:=first|exact zz|fail) only[go_sem,hLg.len,hLg.idx,hLg.load,hrow.len,hrow.idx,hrow.load,load_at k2,load_at k4,load_at k5,hpush,hst];with_reducible rfl)))
    refine rounded_n ?_ ⟨⟨fun b hb => ?_,?_,out ++ [pix ll p],pushV G out.length,tl,rfl,?_,?_,.inr ⟨?_,?_,?_⟩,?_,fun q hq => h6 q (by simp [hq])⟩,fun b c hb hc => ?_⟩
    · rw [List.getElem?_set_ne (by omega)]
      exact pushH_at k6 (k3.nil_or (by omega))
    · have := hB b hb
      simp only [List.length_set,pushH_len]; omega
    · refine Keeps.set ?_ (.inl rfl) _
      refine ⟨by rw [pushH_len]; have := k1.1; omega,fun i hi hk => ?_⟩
      rw [← k1.2 i hi hk]
      unfold pushH
      rw [appH_at (by simp; omega) (k3.nil_or (by omega)),List.getElem?_append_left (by omega)]
    · exact get_set_self (pushH_at k2 hne)
    · exact OwnI.set_ne (k3.pushed xg _) (.inr (by show G.length + 1 ≠ _; omega)) _
    · show H1.length < G.length + 1
      omega
    · show G.length + 1 < _
      simp only [List.length_set,pushH_len]; omega
    · intro hb
      have := hB _ hb
      have e : idOf (pushV G out.length) = G.length + 1 := rfl
      omega
    · rw [← h5]; simp
    · have hb' := hB b hb
      rw [List.getElem?_set_ne (by omega)]
      refine pushH_at (kB b c hb hc) (k3.nil_or ?_)
      rcases h4 with h4 | ⟨_,_,h4⟩
      · exact .inl h4
      · exact .inr fun e => h4 (e ▸ hb)
  · rintro B H' ⟨hB,hk,out,v',tl,h1,h2,h3,h4,h5,h6⟩
    have : tl = [] := List.map_eq_nil_iff.1 h1.symm
    subst this
    simp only [List.map_nil,List.append_nil] at h5
    subst h5
    (repeat(first|refine yw ?_|((first|apply yd|apply ye);simp (disch:=first|exact zz|fail) only[go_sem,load_at h2];with_reducible rfl)))
    exact fin_1 ⟨hk.ext xG (by omega),h3⟩
end
end Go.Lq

namespace Go.Lq
open Go
def tabA : List (Nat × RFunc) :=
  [(4,R4),(10,R10),(25,R25),(26,R26),(27,R27),(29,R29),(30,R30),(32,R32),(36,R36),(37,R37),(38,R38),(39,R39),(40,R40),(41,R41),(43,R43),(44,R44),(46,R46),(48,R48),(58,R58),(59,R59),(64,R64),(65,R65),(66,R66),(67,R67),(68,R68),(69,R69),(82,R82),(83,R83),(84,R84),(85,R85),(98,R98),(99,R99),(100,R100)]
def TA (f : Nat) : Option RFunc := (tabA.find? (fun p => p.1 == f)).map (·.2)
theorem soundTA : SoundT Go.Proofs.Tryz.prog TA := by
  intro f rf h
  have key : ∀ p ∈ tabA,∃ fn,Go.Proofs.Tryz.prog.funcs[p.1]? = some fn ∧ compileFn Go.Proofs.Tryz.prog fn = some p.2 := by
    unfold tabA
    refine List.forall_mem_cons.2 ⟨⟨_,Go.Proofs.Tryz.func4,c4⟩,List.forall_mem_cons.2 ⟨⟨_,Go.Proofs.Tryz.func10,c10⟩,List.forall_mem_cons.2 ⟨⟨_,Go.Proofs.Tryz.func25,c25⟩,List.forall_mem_cons.2 ⟨⟨_,Go.Proofs.Tryz.func26,c26⟩,List.forall_mem_cons.2 ⟨⟨_,Go.Proofs.Tryz.func27,c27⟩,List.forall_mem_cons.2 ⟨⟨_,Go.Proofs.Tryz.func29,c29⟩,List.forall_mem_cons.2 ⟨⟨_,Go.Proofs.Tryz.func30,c30⟩,List.forall_mem_cons.2 ⟨⟨_,Go.Proofs.Tryz.func32,c32⟩,List.forall_mem_cons.2 ⟨⟨_,Go.Proofs.Tryz.func36,c36⟩,List.forall_mem_cons.2 ⟨⟨_,Go.Proofs.Tryz.func37,c37⟩,List.forall_mem_cons.2 ⟨⟨_,Go.Proofs.Tryz.func38,c38⟩,List.forall_mem_cons.2 ⟨⟨_,Go.Proofs.Tryz.func39,c39⟩,List.forall_mem_cons.2 ⟨⟨_,Go.Proofs.Tryz.func40,c40⟩,List.forall_mem_cons.2 ⟨⟨_,Go.Proofs.Tryz.func41,c41⟩,List.forall_mem_cons.2 ⟨⟨_,Go.Proofs.Tryz.func43,c43⟩,List.forall_mem_cons.2 ⟨⟨_,Go.Proofs.Tryz.func44,c44⟩,List.forall_mem_cons.2 ⟨⟨_,Go.Proofs.Tryz.func46,c46⟩,List.forall_mem_cons.2 ⟨⟨_,Go.Proofs.Tryz.func48,c48⟩,List.forall_mem_cons.2 ⟨⟨_,Go.Proofs.Tryz.func58,c58⟩,List.forall_mem_cons.2 ⟨⟨_,Go.Proofs.Tryz.func59,c59⟩,List.forall_mem_cons.2 ⟨⟨_,Go.Proofs.Tryz.func64,c64⟩,List.forall_mem_cons.2 ⟨⟨_,Go.Proofs.Tryz.func65,c65⟩,List.forall_mem_cons.2 ⟨⟨_,Go.Proofs.Tryz.func66,c66⟩,List.forall_mem_cons.2 ⟨⟨_,Go.Proofs.Tryz.func67,c67⟩,List.forall_mem_cons.2 ⟨⟨_,Go.Proofs.Tryz.func68,c68⟩,List.forall_mem_cons.2 ⟨⟨_,Go.Proofs.Tryz.func69,c69⟩,List.forall_mem_cons.2 ⟨⟨_,Go.Proofs.Tryz.func82,c82⟩,List.forall_mem_cons.2 ⟨⟨_,Go.Proofs.Tryz.func83,c83⟩,List.forall_mem_cons.2 ⟨⟨_,Go.Proofs.Tryz.func84,c84⟩,List.forall_mem_cons.2 ⟨⟨_,Go.Proofs.Tryz.func85,c85⟩,List.forall_mem_cons.2 ⟨⟨_,Go.Proofs.Tryz.func98,c98⟩,List.forall_mem_cons.2 ⟨⟨_,Go.Proofs.Tryz.func99,c99⟩,List.forall_mem_cons.2 ⟨⟨_,Go.Proofs.Tryz.func100,c100⟩,fun p hp => by cases hp⟩⟩⟩⟩⟩⟩⟩⟩⟩⟩⟩⟩⟩⟩⟩⟩⟩⟩⟩⟩⟩⟩⟩⟩⟩⟩⟩⟩⟩⟩⟩⟩⟩
  simp only [TA,Option.map_eq_some_iff] at h
  obtain ⟨p,hp,rfl⟩ := h
  have hm := List.mem_of_find?_eq_some hp
  have hf := List.find?_some hp
  have : p.1 = f := by simpa using hf
  subst this
  exact key p hm
def colO (fv : Value) (args : List Value) (B : AHeap) : Option Value :=
  match fv,args with
  | .func (.func 44) ⟨[]⟩ ⟨[]⟩,[.agg ⟨[.slice (some ⟨id,off,none⟩) (_ + 1) _,.int _ _]⟩] =>
    match cellAt B id off with | some (.slice _ m _) => some (.int .i64 m) | _ => none
  | _,_ => none
end Go.Lq

namespace Go.Lq
open Go
def nth : Nat → RCode → RCode
  | 0,.seq a _ => a
  | n + 1,.seq _ b => nth n b
  | _,c => c
def H0 : AHeap := List.replicate 9 .dead
def E0 : Env := List.replicate 45 undef
end Go.Lq

namespace Go.Lq
open Go
def E1 : Env :=
  [(.bool false),(.tuple #[]),(.tuple #[]),(.tuple #[]),(.tuple #[]),(.tuple #[]),(.tuple #[]),(.tuple #[]),(.tuple #[]),(.tuple #[]),(.tuple #[]),(.tuple #[]),(.tuple #[]),(.tuple #[]),(.tuple #[]),(.tuple #[]),(.tuple #[]),(.tuple #[]),(.tuple #[]),(.tuple #[]),(.tuple #[]),(.tuple #[]),(.tuple #[]),(.tuple #[]),(.tuple #[]),(.tuple #[]),(.tuple #[]),(.tuple #[]),(.tuple #[]),(.tuple #[]),(.tuple #[]),(.tuple #[]),(.tuple #[]),(.tuple #[]),(.tuple #[]),(.tuple #[]),(.tuple #[]),(.tuple #[]),(.tuple #[]),(.tuple #[]),(.tuple #[]),(.tuple #[]),(.tuple #[]),(.tuple #[]),(.tuple #[])]
def H1 : AHeap :=
  [.dead,.dead,.dead,.dead,.dead,.dead,.dead,.dead,.dead]
def E2 : Env :=
  [(.bool false),(.slice (some ⟨14,0,none⟩) 3 3),(.int .i64 5),(.int .i64 0),(.tuple #[]),(.tuple #[]),(.tuple #[(.slice (some ⟨14,0,none⟩) 3 3),(.int .i64 5),(.int .i64 0)]),(.agg #[(.slice (some ⟨13,0,none⟩) 3 3),(.int .i64 1)]),(.tuple #[(.slice (some ⟨14,0,none⟩) 3 3),(.int .i64 5),(.int .i64 0)]),(.slice (some ⟨14,0,none⟩) 3 3),(.int .i64 5),(.int .i64 0),(.tuple #[]),(.tuple #[]),(.tuple #[]),(.tuple #[]),(.tuple #[]),(.tuple #[]),(.tuple #[]),(.tuple #[]),(.tuple #[]),(.tuple #[]),(.tuple #[]),(.tuple #[]),(.tuple #[]),(.tuple #[]),(.tuple #[]),(.tuple #[]),(.tuple #[]),(.tuple #[]),(.tuple #[]),(.tuple #[]),(.tuple #[]),(.tuple #[]),(.tuple #[]),(.tuple #[]),(.tuple #[]),(.tuple #[]),(.tuple #[]),(.tuple #[]),(.tuple #[]),(.tuple #[]),(.tuple #[]),(.tuple #[]),(.tuple #[])]
def H2 : AHeap :=
  [.dead,.dead,.dead,.dead,.dead,.dead,.dead,.dead,.dead,(.cells true 0 [(.slice (some ⟨13,0,none⟩) 3 3),(.int .i64 1)]),(.cells true 1 [(.int .i64 5),(.int .i64 1),(.int .i64 9)]),(.cells true 1 [(.int .i64 4),(.int .i64 4),(.int .i64 0)]),(.cells true 1 [(.int .i64 7),(.int .i64 2),(.int .i64 3)]),(.cells true 1 [(.slice (some ⟨10,0,none⟩) 3 3),(.slice (some ⟨11,0,none⟩) 3 3),(.slice (some ⟨12,0,none⟩) 3 3)]),(.cells true 1 [(.int .i64 1),(.int .i64 2),(.int .i64 1)])]
def E3 : Env :=
  [(.bool false),(.slice (some ⟨14,0,none⟩) 3 3),(.int .i64 5),(.int .i64 0),(.slice (some ⟨16,0,none⟩) 1 1),(.int .i64 0),(.tuple #[(.slice (some ⟨14,0,none⟩) 3 3),(.int .i64 5),(.int .i64 0)]),(.agg #[(.slice (some ⟨13,0,none⟩) 3 3),(.int .i64 1)]),(.tuple #[(.slice (some ⟨14,0,none⟩) 3 3),(.int .i64 5),(.int .i64 0)]),(.slice (some ⟨14,0,none⟩) 3 3),(.int .i64 5),(.int .i64 0),(.tuple #[(.slice (some ⟨16,0,none⟩) 1 1),(.int .i64 0)]),(.agg #[(.int .i64 11),(.int .i64 5)]),(.slice (some ⟨15,0,none⟩) 1 1),(.tuple #[(.slice (some ⟨16,0,none⟩) 1 1),(.int .i64 0)]),(.slice (some ⟨16,0,none⟩) 1 1),(.int .i64 0),(.tuple #[]),(.tuple #[]),(.tuple #[]),(.tuple #[]),(.tuple #[]),(.tuple #[]),(.tuple #[]),(.tuple #[]),(.tuple #[]),(.tuple #[]),(.tuple #[]),(.tuple #[]),(.tuple #[]),(.tuple #[]),(.tuple #[]),(.tuple #[]),(.tuple #[]),(.tuple #[]),(.tuple #[]),(.tuple #[]),(.tuple #[]),(.tuple #[]),(.tuple #[]),(.tuple #[]),(.tuple #[]),(.tuple #[]),(.tuple #[])]
def H3 : AHeap :=
  [.dead,.dead,.dead,.dead,.dead,.dead,.dead,.dead,.dead,(.cells true 0 [(.slice (some ⟨13,0,none⟩) 3 3),(.int .i64 1)]),(.cells true 1 [(.int .i64 5),(.int .i64 1),(.int .i64 9)]),(.cells true 1 [(.int .i64 4),(.int .i64 4),(.int .i64 0)]),(.cells true 1 [(.int .i64 7),(.int .i64 2),(.int .i64 3)]),(.cells true 1 [(.slice (some ⟨10,0,none⟩) 3 3),(.slice (some ⟨11,0,none⟩) 3 3),(.slice (some ⟨12,0,none⟩) 3 3)]),(.cells true 1 [(.int .i64 1),(.int .i64 2),(.int .i64 1)]),(.cells true 2 [(.int .i64 11),(.int .i64 5)]),(.cells true 2 [(.int .i64 3),(.int .i64 8)])]
def E4 : Env :=
  [(.bool true),(.slice (some ⟨14,0,none⟩) 3 3),(.int .i64 5),(.int .i64 0),(.slice (some ⟨16,0,none⟩) 1 1),(.int .i64 0),(.tuple #[(.slice (some ⟨14,0,none⟩) 3 3),(.int .i64 5),(.int .i64 0)]),(.agg #[(.slice (some ⟨13,0,none⟩) 3 3),(.int .i64 1)]),(.tuple #[(.slice (some ⟨14,0,none⟩) 3 3),(.int .i64 5),(.int .i64 0)]),(.slice (some ⟨14,0,none⟩) 3 3),(.int .i64 5),(.int .i64 0),(.tuple #[(.slice (some ⟨16,0,none⟩) 1 1),(.int .i64 0)]),(.agg #[(.int .i64 11),(.int .i64 5)]),(.slice (some ⟨15,0,none⟩) 1 1),(.tuple #[(.slice (some ⟨16,0,none⟩) 1 1),(.int .i64 0)]),(.slice (some ⟨16,0,none⟩) 1 1),(.int .i64 0),(.int .i64 0),(.bool true),(.bool true),(.int .i64 5),(.bool true),(.bool true),(.bool true),(.slice (some ⟨14,0,none⟩) 3 3),(.slice (some ⟨17,0,none⟩) 3 3),(.bool true),(.bool true),(.bool true),(.int .i64 0),(.bool true),(.bool true),(.bool true),(.slice (some ⟨16,0,none⟩) 1 1),(.int .i64 1),(.bool true),(.bool true),(.bool true),(.slice (some ⟨16,0,none⟩) 1 1),(.pointer (some ⟨16,0,none⟩)),(.agg #[(.int .i64 3),(.int .i64 8)]),(.agg #[(.int .i64 3),(.int .i64 8)]),(.bool true),(.bool true)]
def H4 : AHeap :=
  [.dead,.dead,.dead,.dead,.dead,.dead,.dead,.dead,.dead,(.cells true 0 [(.slice (some ⟨13,0,none⟩) 3 3),(.int .i64 1)]),(.cells true 1 [(.int .i64 5),(.int .i64 1),(.int .i64 9)]),(.cells true 1 [(.int .i64 4),(.int .i64 4),(.int .i64 0)]),(.cells true 1 [(.int .i64 7),(.int .i64 2),(.int .i64 3)]),(.cells true 1 [(.slice (some ⟨10,0,none⟩) 3 3),(.slice (some ⟨11,0,none⟩) 3 3),(.slice (some ⟨12,0,none⟩) 3 3)]),(.cells true 1 [(.int .i64 1),(.int .i64 2),(.int .i64 1)]),(.cells true 2 [(.int .i64 11),(.int .i64 5)]),(.cells true 2 [(.int .i64 3),(.int .i64 8)]),(.cells true 1 [(.int .i64 1),(.int .i64 2),(.int .i64 1)])]
theorem awake0 : run TA colO 400 (.code (nth 0 R4.code) none E0) H0 = some (.normal,E1,H1,1000000000000) := by kernel_rfl
theorem awake1 : run TA colO 400 (.code (nth 1 R4.code) none E1) H1 = some (.normal,E2,H2,9) := by kernel_rfl
theorem awake2 : run TA colO 400 (.code (nth 2 R4.code) none E2) H2 = some (.normal,E3,H3,1000000000000) := by kernel_rfl
theorem awake3 : run TA colO 400 (.code (nth 3 R4.code) none E3) H3 = some (.normal,E4,H4,1000000000000) := by kernel_rfl
end Go.Lq

namespace Go.Lq
open Go
theorem soundO : SoundO Go.Proofs.Tryz.prog colO := by
  intro fv args B v h N
  unfold colO at h
  split at h
  · rename_i id off m' c' k b
    split at h
    · rename_i ad m c hc
      cases h
      show ACall _ _ _ _ _
      refine ACall.drop (.int _ _) ?_
      have hx : Ext B ((B ++ N) ++ [.cells true 0 [.slice (some ⟨id,off,none⟩) (m' + 1) c',.int k b]]) := ((Ext.refl B).app N).app _
      have hld : ∀ G,Ext B G → loadR (.pointer (some ⟨id,off,none⟩)) G = some (.slice ad m c,G) := fun G hx => by
        simp only [loadR,cellAt_ext hx hc,Option.map_some]
      have hbx : boxR (.agg ⟨[.slice (some ⟨id,off,none⟩) (m' + 1) c',.int k b]⟩) (B ++ N) = some (.pointer (some ⟨(B ++ N).length,0,none⟩),(B ++ N) ++ [.cells true 0 [.slice (some ⟨id,off,none⟩) (m' + 1) c',.int k b]]) := rfl
      have hl0 : ∀ o,loadR (.pointer (some ⟨(B ++ N).length,0,none⟩)) ((B ++ N) ++ [.cells true 0 (.slice (some ⟨id,off,none⟩) (m' + 1) c' :: o)]) = some (.slice (some ⟨id,off,none⟩) (m' + 1) c',(B ++ N) ++ [.cells true 0 (.slice (some ⟨id,off,none⟩) (m' + 1) c' :: o)]) := fun o => by
        unfold loadR cellAt
        simp only
        rw [List.getElem?_append_right (Nat.le_refl _),Nat.sub_self]
        rfl
      have hix : ∀ H,idxR 1 (.slice (some ⟨id,off,none⟩) (m' + 1) c') (.int .i64 0) H = some (.pointer (some ⟨id,off,none⟩),H) := fun H => by
        simp only [idxR]; rw [if_pos ⟨by omega,by omega⟩]; rfl
      (refine a44 ?_; simp only [n44,List.replicate,List.length_cons,List.length_nil,List.cons_append,List.nil_append]; first | refine Go.Lq.q1 ?_ | refine Go.Lq.q2 ?_ | refine Go.Lq.q6 ?_ | refine Go.Lq.q7 ?_ | refine Go.Lq.qh rfl ?_ | skip)
      refine yx ?_; (refine aops_until (by simp (disch:=first|exact zz|fail) only[go_sem,hbx]; with_reducible rfl) ?_); refine yx ?_; (refine aops_until (by simp (disch:=first|exact zz|fail) only[go_sem,hl0,hix,hld _ hx,Nat.zero_add,Nat.add_zero]; with_reducible rfl) ?_); refine yx ?_
      exact fin_1 ⟨rfl,⟨_,rfl⟩⟩
    · cases h
  · cases h
theorem awp_run {n : Nat} {c : RCode} {ar : Option Nat} {e e' : Env} {H H' : AHeap} {x : AExit} {lo : Nat} {Q : AExit → Env → AHeap → Prop}
    (h : run TA colO n (.code c ar e) H = some (x,e',H',lo)) (k : Q x e' H') : AWP Go.Proofs.Tryz.prog ar c Q e H :=
  CodeSound.awp (run_sound mo soundTA soundO n _ _ _ _ _ _ h).2 k
theorem awake0_c : ACall Go.Proofs.Tryz.prog 4 [] H0 fun v H => v = .bool true ∧ H = H0 := by
  refine ACall.drop (.bool _) ?_
  refine a4 ?_
  show AWP _ _ _ _ E0 H0
  refine awp_seq (awp_run awake0 ?_)
  refine awp_seq (awp_run awake1 ?_)
  refine awp_seq (awp_run awake2 ?_)
  refine awp_seq (awp_run awake3 ?_)
  refine awp_ret ?_
  refine fin_1 ⟨rfl,?_⟩
  exact ⟨H4.drop 9,rfl⟩
theorem dead_own (n : Nat) : OwnHeap (List.replicate n AObj.dead) := by
  intro i x hx
  rw [(List.mem_replicate.1 (List.mem_of_getElem? hx)).2]
  trivial
theorem globals_size : Go.Proofs.Tryz.prog.globals.size = 9 := by kernel_rfl
def Big (H : AHeap) : Prop := 9 ≤ H.length
theorem Big.trans {H H' : AHeap} (h : Big H) (hx : Ext H H') : Big H' := by
  obtain ⟨M,rfl⟩ := hx
  unfold Big at *
  simp; omega
theorem Big.app {H : AHeap} (h : Big H) (N : AHeap) : Big (H ++ N) := h.trans ((Ext.refl H).app N)
theorem Big.set {H : AHeap} (h : Big H) {i : Nat} (c : AObj) : Big (H.set i c) := by unfold Big at *; simpa using h
theorem dead_call {f : FuncId} {args : List Value} {v : Value} {H : AHeap} (hb : Big H) (ha : ∀ x ∈ args,Closed x) (hv : Closed v) (h : ACall Go.Proofs.Tryz.prog f args H0 fun w H' => w = v ∧ H' = H0) :
    ACall Go.Proofs.Tryz.prog f args H fun w H' => w = v ∧ H' = H := by
  have h1 := ACall.frame (by rw [globals_size]; exact Nat.le_refl _) (dead_own 9) ha hv h (List.replicate (H.length - 9) .dead)
  have e : List.replicate 9 AObj.dead ++ List.replicate (H.length - 9) AObj.dead = List.replicate H.length .dead := by
    rw [List.replicate_append_replicate]
    congr 1
    have : 9 ≤ H.length := hb
    omega
  rw [e] at h1
  refine h1.mask ⟨by simp,fun i => ?_⟩ (dead_own _) hv
  by_cases hi : i < H.length
  · right; simp [hi]
  · left; simp [hi]
theorem shown_c {H : AHeap} (hb : Big H) : ACall Go.Proofs.Tryz.prog 4 [] H fun v H' => v = .bool true ∧ H' = H :=
  dead_call hb (fun x hx => by cases hx) (.bool _) awake0_c
end Go.Lq

namespace Go.Lq
open Go Go.ChangeShapes Go.WideShapes Go.ChangeAt Go.RowKit
open Go.Proofs
theorem own_knob : ownKnob Tryz.prog.godebug = none := by kernel_rfl
theorem laid_out : laidOutB Tryz.prog = true := by kernel_rfl
def laidAll : List (String × DataW Unit) := [("math/bits.deBruijn32tab",YtpgemmklfaedfabGreatDoor.Rows.laid_math_bits_deBruijn32tab),("math/bits.deBruijn64tab",YtpgemmklfaedfabGreatDoor.Rows.laid_math_bits_deBruijn64tab),("internal/strconv.uint64pow10",YtpgemmklfaedfabGreatDoor.Rows.laid_internal_strconv_uint64pow10),("unicode/utf8.acceptRanges",YtpgemmklfaedfabGreatDoor.Rows.laid_unicode_utf8_acceptRanges),("strconv.ErrRange",YtpgemmklfaedfabGreatDoor.Rows.laid_strconv_ErrRange),("strconv.ErrSyntax",YtpgemmklfaedfabGreatDoor.Rows.laid_strconv_ErrSyntax),("lacquer/groove.sides",YtpgemmklfaedfabGreatDoor.Rows.laid_lacquer_groove_sides),("unicode/utf8.first",YtpgemmklfaedfabGreatDoor.Rows.laid_unicode_utf8_first)]
theorem met_plain {W : World} : laidMetH Tryz.prog laidAll W = laidMet Tryz.prog laidAll W := MakeChecks.laidMetH_plain _ _ _ (by kernel_rfl)
theorem door_met (os : Os) (args : Array Value) : laidMetH Tryz.prog laidAll ((World.laidAll Tryz.prog os laidAll).forCall (fun _ _ => 0) ⟨#[],args,[]⟩).memory := by
  rw [met_plain]; exact laidMet_laidAll _ (by kernel_rfl) (by kernel_rfl)
theorem door_shaped (os : Os) (args : Array Value) : ((World.laidAll Tryz.prog os laidAll).forCall (fun _ _ => 0) ⟨#[],args,[]⟩).Shaped Tryz.prog := World.shaped_of_ZipB (by kernel_rfl) (by kernel_rfl)
theorem looks0 : true = Tryz.prog.looks [] := by kernel_rfl
theorem may_enter : Tryz.prog.mayEnter = true := by kernel_rfl
theorem stops_heard : Tryz.prog.stopsHeard = true := by kernel_rfl
theorem maps_rowed : mapsRowed Tryz.prog = true := by kernel_rfl
theorem glob_block {W : World} (hsh : W.ShapedOpen Tryz.prog) {g : Nat} (hg : g < 9) (h0 : (((begin Tryz.prog (fun _ _ => 0) default).world.heap[g]?).bind Obj.row?).isSome = true) : ∃ cs t,W.heap[g]? = some (.cells cs t) := by
  obtain ⟨⟨zero,t⟩,e⟩ := Option.isSome_iff_exists.1 h0
  obtain ⟨cs,h,_⟩ := hsh.1 g zero t (by rw [gSize]; exact hg) e
  exact ⟨cs,t,h⟩
theorem iface_cell {P : Program} {w : World} {held : Bool} {fuel : Nat} {t : TypeId} {ms} {cs : List Value} {n : String} {d : DataW Unit} {p : List MemPlace} (ht : P.underlying t = some (.interface ms))
    (h : DataW.trod (fun _ => ()) P w 0 (fun _ => true) held fuel t cs = some (.iface n d,p)) : ∃ u v,cs = [.iface u v] := by
  cases fuel with
  | zero => simp [DataW.trod] at h
  | succ fuel =>
    unfold DataW.trod at h
    rw [ht] at h
    split at h <;> first | (cases h; done) | (rename_i e; cases e; exact ⟨_,_,rfl⟩) | (rename_i e _; cases e; done) | (rename_i e; cases e; done) | skip
theorem gRange : Tryz.prog.globalNamed "strconv.ErrRange" = some 2 := by kernel_rfl
theorem gSyntax : Tryz.prog.globalNamed "strconv.ErrSyntax" = some 1 := by kernel_rfl
theorem gSides : Tryz.prog.globalNamed "lacquer/groove.sides" = some 0 := by kernel_rfl
theorem tTab : (Tryz.prog.globals[6]?).map (·.type) = some 189 := by kernel_rfl
theorem tErr3 : (Tryz.prog.globals[1]?).map (·.type) = some 106 := by kernel_rfl
theorem tErr4 : (Tryz.prog.globals[2]?).map (·.type) = some 106 := by kernel_rfl
theorem tSides : (Tryz.prog.globals[0]?).map (·.type) = some 139 := by kernel_rfl
def S0 (m : Int) (t u : TypeId) : AHeap := [.cells false 3 sideCells,.cells false 1 [.iface t junk],.cells false 1 [.iface u junk],.cells false 1 [],.cells false 1 [],.cells false 1 [.int .i64 m],.row tabRow,.cells false 1 [],.cells false 1 []]
theorem strH0 {m : Int} {t u : TypeId} {H : AHeap} (hx : Ext (S0 m t u) H) : StrH H :=
  ⟨⟨m,ext_at hx rfl⟩,ext_at hx rfl,⟨t,ext_at hx rfl⟩,⟨u,ext_at hx rfl⟩⟩
theorem strH {m : Int} {t u : TypeId} {H : AHeap} (hx : Ext (S0 m t u) H) : ∃ m t u,Ext (S0 m t u) H := ⟨m,t,u,hx⟩
theorem var_cells {P : Program} {W : World} {n : String} {g : Nat} {cs : Array Value} (hg : P.globalNamed n = some g) (h : W.var? P n = some cs) : ∃ t fz,W.heap[g]? = some (.cells cs t fz) := by
  unfold World.var? at h
  rw [hg] at h
  simp only [Option.bind_some] at h
  split at h
  · cases h; exact ⟨_,_,by assumption⟩
  · cases h
theorem big0 {m : Int} {t u : TypeId} {H : AHeap} (hx : Ext (S0 m t u) H) : Big H := Big.trans (H := S0 m t u) (show 9 ≤ 9 from Nat.le_refl _) hx
theorem of_laid {W : World} (h : laidMetH Tryz.prog laidAll W) (hsh : W.ShapedOpen Tryz.prog) : ∃ m t u,Laid W [⟨0,0,64⟩,⟨1,0,64⟩,⟨2,0,64⟩,⟨3,0,64⟩,⟨4,0,64⟩,⟨5,0,64⟩,⟨6,0,64⟩,⟨7,0,64⟩,⟨8,0,64⟩] (S0 m t u) := by
  rw [met_plain] at h
  obtain ⟨ps,hv,_⟩ := h
  obtain ⟨_,_,_,_,_,_,_,_,_,_,hv,_⟩ := hv
  obtain ⟨_,_,_,_,_,_,_,_,_,_,hv,_⟩ := hv
  obtain ⟨g6,t6,c6,f6,p6,_,a6,b6,v6,d6,hv,_⟩ := hv
  obtain ⟨_,_,_,_,_,_,_,_,_,_,hv,_⟩ := hv
  obtain ⟨g4,t4,c4,f4,p4,_,a4,b4,v4,d4,hv,_⟩ := hv
  obtain ⟨g3,t3,c3,f3,p3,_,a3,b3,v3,d3,hv,_⟩ := hv
  obtain ⟨g2,t2,c2,f2,p2,_,a2,b2,v2,d2,hv,_⟩ := hv
  obtain rfl := Option.some.inj (gTab.symm.trans a6)
  obtain rfl := Option.some.inj (gRange.symm.trans a4)
  obtain rfl := Option.some.inj (gSyntax.symm.trans a3)
  obtain rfl := Option.some.inj (gSides.symm.trans a2)
  obtain rfl := Option.some.inj (tTab.symm.trans b6)
  obtain rfl := Option.some.inj (tErr4.symm.trans b4)
  obtain rfl := Option.some.inj (tErr3.symm.trans b3)
  obtain rfl := Option.some.inj (tSides.symm.trans b2)
  obtain ⟨m,hm⟩ := cell_of_shapedOpen_int (P := Tryz.prog) (g := 5) (zero := #[.int .i64 0]) (t := 3) hsh (of_decide_eq_true (by kernel_rfl)) (by kernel_rfl) rfl (by kernel_rfl) (by kernel_rfl) Tryz.underlying3
  have e6 : c6.toList = Lib.pow10Tab.map fun z => Value.int .u64 z := Lib.cells_of_tab (t := 189) (e := 161) (n := 20) (k := .u64) (zs := Lib.pow10Tab) (by kernel_rfl) (by kernel_rfl) (by kernel_rfl) (by kernel_rfl) d6
  have e6 : c6 = tabRow := by
    unfold tabRow
    rw [← e6]
  subst e6
  have hcs := flat_of 5 _ _ _ _ d2 (by kernel_rfl)
  obtain ⟨u,x4,e4⟩ := iface_cell Tryz.underlying106 d4
  obtain ⟨t,x3,e3⟩ := iface_cell Tryz.underlying106 d3
  obtain ⟨s2,z2,h2⟩ := var_cells gSides v2
  obtain ⟨s3,z3,h3⟩ := var_cells gSyntax v3
  obtain ⟨s4,z4,h4⟩ := var_cells gRange v4
  obtain ⟨ka,sa,ha⟩ := glob_block (g := 3) hsh (by decide) (by kernel_rfl)
  obtain ⟨kb,sb,hb⟩ := glob_block (g := 4) hsh (by decide) (by kernel_rfl)
  obtain ⟨k5,s5,h5⟩ := glob_block (g := 5) hsh (by decide) (by kernel_rfl)
  obtain ⟨s6,z6,h6⟩ := var_cells gTab v6
  obtain ⟨k7,s7,h7⟩ := glob_block (g := 7) hsh (by decide) (by kernel_rfl)
  obtain ⟨k8,s8,h8⟩ := glob_block (g := 8) hsh (by decide) (by kernel_rfl)
  refine ⟨m,t,u,?_⟩
  have one : ∀ {cs : Array Value} {t : TypeId} {x : Value},cs.toList = [.iface t x] → ∀ (B : List ALoc) (k : Nat) (v : Value),[Value.iface t junk][k]? = some v → ∃ cv,cs[0 + k]? = some cv ∧ VR (betaOf B) v cv := fun {cs t x} e B k v hk => by
    cases k with
    | zero =>
      simp at hk
      subst hk
      exact ⟨.iface t x,by rw [← Array.getElem?_toList,e]; rfl,.iface _ (.junk _)⟩
    | succ k => simp at hk
  have L2 := Laid.table (Laid.none W) h2 (hcs.symm.trans (by rfl)) (vs := sideCells) (fun v hv => by
    simp only [sideCells,List.mem_cons,List.not_mem_nil,or_false] at hv
    rcases hv with rfl | rfl | rfl | rfl | rfl | rfl | rfl | rfl | rfl | rfl | rfl | rfl | rfl | rfl | rfl <;> exact .int _ _) 3 64
  have L3 := L2.push (p := ⟨1,0,64⟩) (esz := 1) (vs := [.iface t junk]) h3 (one e3 _)
  have L4 := L3.push (p := ⟨2,0,64⟩) (esz := 1) (vs := [.iface u junk]) h4 (one e4 _)
  have L5 := ((L4.blank ha 1 64).blank hb 1 64).push (p := ⟨5,0,64⟩) (esz := 1) (vs := [.int .i64 m]) h5 fun k v hk => by
    cases k with
    | zero =>
      simp at hk
      subst hk
      refine ⟨_,?_,.int _ _⟩
      unfold World.cell? at hm
      rw [h5] at hm
      simpa using hm
    | succ k => simp at hk
  have L6 := L5.row (p := ⟨6,0,64⟩) h6
  exact (L6.blank h7 1 64).blank h8 1 64
theorem globs {m : Int} {t u : TypeId} : Tryz.prog.globals.size ≤ (S0 m t u).length := by rw [gSize]; exact Nat.le_refl _
theorem glob_at : ∀ g,g < Tryz.prog.globals.size → ∃ r,([⟨0,0,64⟩,⟨1,0,64⟩,⟨2,0,64⟩,⟨3,0,64⟩,⟨4,0,64⟩,⟨5,0,64⟩,⟨6,0,64⟩,⟨7,0,64⟩,⟨8,0,64⟩] : List ALoc)[g]? = some ⟨g,0,r + 64⟩ := fun g hg => by
  rw [gSize] at hg
  match g,hg with
  | 0,_ => exact ⟨0,rfl⟩
  | 1,_ => exact ⟨0,rfl⟩
  | 2,_ => exact ⟨0,rfl⟩
  | 3,_ => exact ⟨0,rfl⟩
  | 4,_ => exact ⟨0,rfl⟩
  | 5,_ => exact ⟨0,rfl⟩
  | 6,_ => exact ⟨0,rfl⟩
  | 7,_ => exact ⟨0,rfl⟩
  | 8,_ => exact ⟨0,rfl⟩
end Go.Lq

namespace Go.Lq
open Go Go.ChangeShapes Go.WideShapes Go.ChangeAt Go.RowKit
open Go.Proofs
theorem lifts_final : Tryz.prog.liftsFinal = YtpgemmklfaedfabGreatDoor.Rows.topGrooveFollowedRow.lifted := by kernel_rfl
theorem make_is : Tryz.prog.make = some YtpgemmklfaedfabGreatDoor.Rows.topGrooveFollowedRow.make := by kernel_rfl
theorem main_is : Tryz.prog.mainIs = some (true,"a925d5a445d454139ed36b2c39ef5e85728b28b8ea0c079c3c7dbae0e5eef53c".toList) := by kernel_rfl
end Go.Lq

namespace Go.Lq
open Go
open Go.Proofs
theorem walkP_succ (d : Int × Int) : ∀ (n : Nat) (p : Int × Int),walkP p d (n + 1) = walkP p d n ++ [(p.1 + n * d.1,p.2 + n * d.2)]
  | 0,p => by simp [walkP]
  | n + 1,p => by
    rw [walkP,walkP_succ d n]
    simp only [walkP,List.cons_append]
    congr 3
    simp only [Prod.mk.injEq]
    push_cast
    rw [Int.add_mul,Int.add_mul]
    omega
def refRingL (r : Nat) : List (Int × Int) := walkP (r,0) (0,1) (r + 1) ++ walkP (r - 1,r) (-1,0) (2 * r) ++ walkP (-r,r - 1) (0,-1) (2 * r) ++ walkP (-r + 1,-r) (1,0) (2 * r) ++ walkP (r,-r + 1) (0,1) (r - 1)
theorem refRing_eq {r : Nat} (h1 : 1 ≤ r) (h2 : r ≤ 24) : refRingL r = ringP 0 0 r := by
  have : ∀ r : _root_.Fin 25,1 ≤ r.val → refRingL r = ringP 0 0 r := by decide +kernel
  exact this ⟨r,by omega⟩ h1
theorem walk_snoc {p d q : Int × Int} {n : Nat} (h : q = (p.1 + n * d.1,p.2 + n * d.2)) : walkP p d n ++ [q] = walkP p d (n + 1) := by rw [walkP_succ,h]
theorem walk_snoc2 {A : List (Int × Int)} {p d q : Int × Int} {n : Nat} (h : q = (p.1 + n * d.1,p.2 + n * d.2)) : A ++ walkP p d n ++ [q] = A ++ walkP p d (n + 1) := by rw [List.append_assoc,walk_snoc h]
section
variable {H : AHeap}
theorem refRing_c {r : Nat} (h1 : 1 ≤ r) (h2 : r ≤ 24) : ACall Go.Proofs.Tryz.prog 6 [.int .i64 r] H (PairsRet H (ringP 0 0 r)) := by
  rw [← refRing_eq h1 h2]
  refine ACall.pairs ?_
  (refine a6 ?_; simp only [n6,List.replicate,yq,yr,yt,yu]; first | refine q1 ?_ | refine q2 ?_ | refine q6 ?_ | refine q7 ?_ | refine qh rfl ?_ | skip)
  (refine yg ?_)
  refine awp_loop_n [true,false,false,true,true,false,false,false,false,false,false,false,false,false,false,false,false,false,false,false,false,false,false,false,false,false,false,false,false,false,false,false,false,false,false,false,false,false,false,false,false,false,false,false,false,false,false,false,false,false,false,false,false,false,false,false,false,false,false,false,false,false,false,false,false,false,false,false,false,false,false,false,false,false,false,false,false,false] (r + 1) (fun i e H' => ∃ v1,e = [.int .i64 r,junk,junk,v1,.int .i64 i,junk,junk,junk,junk,junk,junk,junk,junk,junk,junk,junk,junk,junk,junk,junk,junk,junk,junk,junk,junk,junk,junk,junk,junk,junk,junk,junk,junk,junk,junk,junk,junk,junk,junk,junk,junk,junk,junk,junk,junk,junk,junk,junk,junk,junk,junk,junk,junk,junk,junk,junk,junk,junk,junk,junk,junk,junk,junk,junk,junk,junk,junk,junk,junk,junk,junk,junk,junk,junk,junk,junk,junk,junk] ∧ OwnP H H' (walkP (r,0) (0,1) i) v1 ∧ Ext H H') ?_ ?_
  · exact ⟨_,by simp [forget],OwnP.nil _ _,Ext.refl _⟩
  rintro i e H1 hi ⟨v1,rfl,ho,hx⟩
  (refine yg ?_)
  refine cond_p rfl (fun hlt => ?_) (fun hge => ?_)
  · (repeat(first|refine yw ?_|((first|apply yd|apply ye);simp (disch:=first|exact zz|fail) only[go_sem,ho.push (by rw [walkP_len]; omega)];with_reducible rfl)))
    have hp := ho.pushed hx (r,i)
    rw [walk_snoc (by simp)] at hp
    refine ⟨by omega,_,?_,hp,ho.ext hx _⟩
    simp [forget]
  obtain rfl : i = r + 1 := by omega
  (refine yg ?_)
  refine awp_loop_n [true,false,false,true,false,true,false,false,false,false,false,false,false,false,false,false,false,false,false,false,false,false,false,false,false,false,false,false,false,false,false,false,false,false,false,false,false,false,false,false,false,false,false,false,false,false,false,false,false,false,false,false,false,false,false,false,false,false,false,false,false,false,false,false,false,false,false,false,false,false,false,false,false,false,false,false,false,false] (2 * r) (fun i e H' => ∃ v1,e = [.int .i64 r,junk,junk,v1,junk,.int .i64 ((r : Int) - 1 - i),junk,junk,junk,junk,junk,junk,junk,junk,junk,junk,junk,junk,junk,junk,junk,junk,junk,junk,junk,junk,junk,junk,junk,junk,junk,junk,junk,junk,junk,junk,junk,junk,junk,junk,junk,junk,junk,junk,junk,junk,junk,junk,junk,junk,junk,junk,junk,junk,junk,junk,junk,junk,junk,junk,junk,junk,junk,junk,junk,junk,junk,junk,junk,junk,junk,junk,junk,junk,junk,junk,junk,junk] ∧ OwnP H H' (walkP (r,0) (0,1) (r + 1) ++ walkP (r - 1,r) (-1,0) i) v1 ∧ Ext H H') ?_ ?_
  · exact ⟨v1,by simp [forget],by simpa [walkP] using ho,hx⟩
  clear ho hx
  rintro i e H2 hi ⟨v2,rfl,ho,hx⟩
  (refine yg ?_)
  refine cond_p rfl (fun hlt => ?_) (fun hge => ?_)
  · (repeat(first|refine yw ?_|((first|apply yd|apply ye);simp (disch:=first|exact zz|fail) only[go_sem,ho.push (by simp only [List.length_append,walkP_len]; omega),Int.zero_sub];with_reducible rfl)))
    have hp := ho.pushed hx ((r : Int) - 1 - i,r)
    rw [walk_snoc2 (by simp; try omega)] at hp
    refine ⟨by omega,_,?_,hp,ho.ext hx _⟩
    simp [forget]; omega
  obtain rfl : i = 2 * r := by omega
  (refine yg ?_)
  refine awp_loop_n [true,false,false,true,false,false,true,false,false,false,false,false,false,false,false,false,false,false,false,false,false,false,false,false,false,false,false,false,false,false,false,false,false,false,false,false,false,false,false,false,false,false,false,false,false,false,false,false,false,false,false,false,false,false,false,false,false,false,false,false,false,false,false,false,false,false,false,false,false,false,false,false,false,false,false,false,false,false] (2 * r) (fun i e H' => ∃ v1,e = [.int .i64 r,junk,junk,v1,junk,junk,.int .i64 ((r : Int) - 1 - i),junk,junk,junk,junk,junk,junk,junk,junk,junk,junk,junk,junk,junk,junk,junk,junk,junk,junk,junk,junk,junk,junk,junk,junk,junk,junk,junk,junk,junk,junk,junk,junk,junk,junk,junk,junk,junk,junk,junk,junk,junk,junk,junk,junk,junk,junk,junk,junk,junk,junk,junk,junk,junk,junk,junk,junk,junk,junk,junk,junk,junk,junk,junk,junk,junk,junk,junk,junk,junk,junk,junk] ∧ OwnP H H' (walkP (r,0) (0,1) (r + 1) ++ walkP (r - 1,r) (-1,0) (2 * r) ++ walkP (-r,r - 1) (0,-1) i) v1 ∧ Ext H H') ?_ ?_
  · exact ⟨v2,by simp [forget],by simpa [walkP] using ho,hx⟩
  clear ho hx
  rintro i e H3 hi ⟨v3,rfl,ho,hx⟩
  (refine yg ?_)
  refine cond_p rfl (fun hlt => ?_) (fun hge => ?_)
  · (repeat(first|refine yw ?_|((first|apply yd|apply ye);simp (disch:=first|exact zz|fail) only[go_sem,ho.push (by simp only [List.length_append,walkP_len]; omega),Int.zero_sub];with_reducible rfl)))
    have hp := ho.pushed hx (-(r : Int),(r : Int) - 1 - i)
    rw [walk_snoc2 (by simp; try omega)] at hp
    refine ⟨by omega,_,?_,hp,ho.ext hx _⟩
    simp [forget]; omega
  obtain rfl : i = 2 * r := by omega
  (refine yg ?_)
  refine awp_loop_n [true,false,false,true,false,false,false,true,false,false,false,false,false,false,false,false,false,false,false,false,false,false,false,false,false,false,false,false,false,false,false,false,false,false,false,false,false,false,false,false,false,false,false,false,false,false,false,false,false,false,false,false,false,false,false,false,false,false,false,false,false,false,false,false,false,false,false,false,false,false,false,false,false,false,false,false,false,false] (2 * r) (fun i e H' => ∃ v1,e = [.int .i64 r,junk,junk,v1,junk,junk,junk,.int .i64 (-(r : Int) + 1 + i),junk,junk,junk,junk,junk,junk,junk,junk,junk,junk,junk,junk,junk,junk,junk,junk,junk,junk,junk,junk,junk,junk,junk,junk,junk,junk,junk,junk,junk,junk,junk,junk,junk,junk,junk,junk,junk,junk,junk,junk,junk,junk,junk,junk,junk,junk,junk,junk,junk,junk,junk,junk,junk,junk,junk,junk,junk,junk,junk,junk,junk,junk,junk,junk,junk,junk,junk,junk,junk,junk] ∧ OwnP H H' (walkP (r,0) (0,1) (r + 1) ++ walkP (r - 1,r) (-1,0) (2 * r) ++ walkP (-r,r - 1) (0,-1) (2 * r) ++ walkP (-r + 1,-r) (1,0) i) v1 ∧ Ext H H') ?_ ?_
  · exact ⟨v3,by simp [forget],by simpa [walkP] using ho,hx⟩
  clear ho hx
  rintro i e H4 hi ⟨v4,rfl,ho,hx⟩
  (refine yg ?_)
  refine cond_p rfl (fun hlt => ?_) (fun hge => ?_)
  · (repeat(first|refine yw ?_|((first|apply yd|apply ye);simp (disch:=first|exact zz|fail) only[go_sem,ho.push (by simp only [List.length_append,walkP_len]; omega),Int.zero_sub];with_reducible rfl)))
    have hp := ho.pushed hx (-(r : Int) + 1 + i,-(r : Int))
    rw [walk_snoc2 (by simp; try omega)] at hp
    refine ⟨by omega,_,?_,hp,ho.ext hx _⟩
    simp [forget]; omega
  obtain rfl : i = 2 * r := by omega
  (refine yg ?_)
  refine awp_loop_n [true,false,false,true,false,false,false,false,true,false,false,false,false,false,false,false,false,false,false,false,false,false,false,false,false,false,false,false,false,false,false,false,false,false,false,false,false,false,false,false,false,false,false,false,false,false,false,false,false,false,false,false,false,false,false,false,false,false,false,false,false,false,false,false,false,false,false,false,false,false,false,false,false,false,false,false,false,false] (r - 1) (fun i e H' => ∃ v1,e = [.int .i64 r,junk,junk,v1,junk,junk,junk,junk,.int .i64 (-(r : Int) + 1 + i),junk,junk,junk,junk,junk,junk,junk,junk,junk,junk,junk,junk,junk,junk,junk,junk,junk,junk,junk,junk,junk,junk,junk,junk,junk,junk,junk,junk,junk,junk,junk,junk,junk,junk,junk,junk,junk,junk,junk,junk,junk,junk,junk,junk,junk,junk,junk,junk,junk,junk,junk,junk,junk,junk,junk,junk,junk,junk,junk,junk,junk,junk,junk,junk,junk,junk,junk,junk,junk] ∧ OwnP H H' (walkP (r,0) (0,1) (r + 1) ++ walkP (r - 1,r) (-1,0) (2 * r) ++ walkP (-r,r - 1) (0,-1) (2 * r) ++ walkP (-r + 1,-r) (1,0) (2 * r) ++ walkP (r,-r + 1) (0,1) i) v1 ∧ Ext H H') ?_ ?_
  · exact ⟨v4,by simp [forget],by simpa [walkP] using ho,hx⟩
  clear ho hx
  rintro i e H5 hi ⟨v5,rfl,ho,hx⟩
  (refine yg ?_)
  refine cond_p rfl (fun hlt => ?_) (fun hge => ?_)
  · (repeat(first|refine yw ?_|((first|apply yd|apply ye);simp (disch:=first|exact zz|fail) only[go_sem,ho.push (by simp only [List.length_append,walkP_len]; omega),Int.zero_sub];with_reducible rfl)))
    have hp := ho.pushed hx (r,-(r : Int) + 1 + i)
    rw [walk_snoc2 (by simp; try omega)] at hp
    refine ⟨by omega,_,?_,hp,ho.ext hx _⟩
    simp [forget]; omega
  obtain rfl : i = r - 1 := by omega
  (refine yg ?_)
  exact fin_1 ⟨hx,ho⟩
end
end Go.Lq

namespace Go.Lq
open Go
open Go.Proofs
theorem gridErr_ok {rows cols : Int} {ll : List (List Int)} (h : gridErrL rows cols ll = 0) :
    0 < ll.length ∧ 0 < (ll.getD 0 []).length ∧ (ll.length : Int) ≤ rows ∧ ((ll.getD 0 []).length : Int) ≤ cols ∧ (∀ i,i < ll.length → (ll.getD i []).length = (ll.getD 0 []).length) ∧
      ∀ i,i < ll.length → ∀ n ∈ ll.getD i [],0 ≤ n ∧ n ≤ 255 := by
  unfold gridErrL at h
  split at h
  · cases h
  · rename_i h0
    split at h
    · cases h
    · rename_i h1
      have hall := gridGo_all h
      have hrow : ∀ i,i < ll.length → (ll.getD i []).length = (ll.getD 0 []).length ∧ ∀ n ∈ ll.getD i [],0 ≤ n ∧ n ≤ 255 := fun i hi => by
        have := hall i hi
        unfold gridRow at this
        split at this
        · rename_i hw
          split at this
          · rename_i ha
            exact ⟨hw,fun n hn => of_decide_eq_true (List.all_eq_true.1 ha n hn)⟩
          · cases this
        · cases this
      exact ⟨by omega,by omega,by omega,by omega,fun i hi => (hrow i hi).1,fun i hi => (hrow i hi).2⟩
def inR (ll : List (List Int)) (x y r : Int) : Bool := decide (r ≤ x ∧ x ≤ ((ll.getD 0 []).length : Int) - 1 - r) && decide (r ≤ y ∧ y ≤ (ll.length : Int) - 1 - r)
theorem inR_t {ll : List (List Int)} {x y r : Int} : inR ll x y r = true ↔ (r ≤ x ∧ x ≤ ((ll.getD 0 []).length : Int) - 1 - r) ∧ (r ≤ y ∧ y ≤ (ll.length : Int) - 1 - r) := by simp [inR]
theorem mem_getD {α : Type} {l : List α} {a d : α} (h : a ∈ l) : ∃ j,j < l.length ∧ l.getD j d = a := by
  obtain ⟨j,hj,rfl⟩ := List.getElem_of_mem h
  exact ⟨j,hj,by rw [List.getD_eq_getElem?_getD,List.getElem?_eq_getElem hj]; rfl⟩
theorem getD_mem {α : Type} {l : List α} {d : α} {j : Nat} (h : j < l.length) : l.getD j d ∈ l := by
  rw [List.getD_eq_getElem?_getD,List.getElem?_eq_getElem h]; exact List.getElem_mem h
section
variable {H : AHeap}
theorem ringErr1_c {id : Nat} {r : Int} (hc : H[id]? = some (.cells true 0 [.int .i64 r])) (hr : 0 ≤ r ∧ r ≤ 1000) (n side : Int) (hs : 0 ≤ side ∧ side ≤ 1000000000) :
    ACall Go.Proofs.Tryz.prog 61 [.int .i64 n,.int .i64 side,.pointer (some ⟨id,0,none⟩)] H fun v H' => v = .bool (decide (r ≤ n ∧ n ≤ side - 1 - r)) ∧ H' = H := by
  (refine a61 ?_; simp only [n61,List.replicate,yq,yr,yt,yu]; first | refine q1 ?_ | refine q2 ?_ | refine q6 ?_ | refine q7 ?_ | refine qh rfl ?_ | skip)
  (repeat(first|refine yw ?_|((first|apply yd|apply ye);simp (disch:=first|exact zz|fail) only[go_sem,load_at hc];with_reducible rfl)))
  refine aops_call_to (within_c _ _ _) ?_
  (refine yg ?_)
  exact fin_1 ⟨rfl,rfl⟩
theorem ringErr_c {ll : List (List Int)} {vs : List Value} {v : Value} {x y r : Int} (hL : Lists H ll vs v) (h0 : 0 < ll.length) (hb : ll.length ≤ 1000000000) (hb0 : (ll.getD 0 []).length ≤ 1000000000) (hr : 0 ≤ r ∧ r ≤ 1000) :
    ACall Go.Proofs.Tryz.prog 33 [.agg ⟨[v]⟩,.agg ⟨[.int .i64 x,.int .i64 y]⟩,.int .i64 r] H fun w H' => w = .int .i64 (if inR ll x y r then 0 else 23) ∧ H' = H := by
  refine ACall.drop (.int _ _) ?_
  (refine a33 ?_; simp only [n33,List.replicate,yq,yr,yt,yu]; first | refine q1 ?_ | refine q2 ?_ | refine q6 ?_ | refine q7 ?_ | refine qh rfl ?_ | skip)
  (repeat(first|refine yw ?_|((first|apply yd|apply ye);simp (disch:=first|exact zz|fail) only[go_sem,hL.box];with_reducible rfl)))
  (simp only [List.length_append,List.length_cons,List.length_nil,Nat.zero_add,Nat.add_assoc,Nat.reduceAdd])
  obtain ⟨G,hG⟩ : ∃ G,G = H ++ [AObj.cells true 0 [v]] ++ [AObj.cells true 0 [.int .i64 x,.int .i64 y]] ++ [AObj.cells true 0 [.int .i64 r]] := ⟨_,rfl⟩
  have g0 : G[H.length]? = some (.cells true 0 [v]) := by rw [hG]; exact at_app (at_app at_new)
  have g1 : G[H.length + 1]? = some (.cells true 0 [.int .i64 x,.int .i64 y]) := by rw [hG]; refine at_app ?_; simp
  have g2 : G[H.length + 2]? = some (.cells true 0 [.int .i64 r]) := by rw [hG]; simp
  have xG : Ext H G := by rw [hG]; exact (((Ext.refl H).app _).app _).app _
  rw [← hG]
  clear hG
  have hLg := hL.ext xG
  have hrow := hLg.row h0
  have z0 : (0 : Int).toNat = 0 := rfl
  (repeat(first|refine yw ?_|((first|apply yd|apply ye);simp (disch:=first|exact zz|fail) only[go_sem,hLg.len,hLg.idx,hLg.load,hrow.len,hrow.idx,hrow.load,load_at g0,load_at g1,z0];with_reducible rfl)))
  first | (refine adraw_call (N := []) (firstD (ringErr1_c g2 hr _ _ (by omega))) ?_; rw [List.append_nil]) | refine aops_call_to (ringErr1_c g2 hr _ _ (by omega)) ?_
  by_cases h1 : r ≤ x ∧ x ≤ ((ll.getD 0 []).length : Int) - 1 - r
  · (repeat(first|refine yw ?_|((first|apply yd|apply ye);simp (disch:=first|exact zz|fail) only[go_sem,hLg.len,hLg.idx,hLg.load,hrow.len,hrow.idx,hrow.load,load_at g0,load_at g1,z0,dec_t h1];with_reducible rfl)))
    first | (refine adraw_call (N := []) (firstD (ringErr1_c g2 hr _ _ (by omega))) ?_; rw [List.append_nil]) | refine aops_call_to (ringErr1_c g2 hr _ _ (by omega)) ?_
    (refine yg ?_)
    first | (refine adraw_call (N := []) (firstD (unless_c _ _)) ?_; rw [List.append_nil]) | refine aops_call_to (unless_c _ _) ?_
    (refine yg ?_)
    refine fin_1 ⟨?_,xG⟩
    unfold inR; rw [dec_t h1,Bool.true_and]; rfl
  · (repeat(first|refine yw ?_|((first|apply yd|apply ye);simp (disch:=first|exact zz|fail) only[go_sem,hLg.len,hLg.idx,hLg.load,hrow.len,hrow.idx,hrow.load,load_at g0,load_at g1,z0,dec_f h1];with_reducible rfl)))
    first | (refine adraw_call (N := []) (firstD (unless_c _ _)) ?_; rw [List.append_nil]) | refine aops_call_to (unless_c _ _) ?_
    (refine yg ?_)
    refine fin_1 ⟨?_,xG⟩
    unfold inR; rw [dec_f h1,Bool.false_and]; rfl
end
end Go.Lq

namespace Go.Lq
open Go
open Go.Proofs
theorem getD_ge {α : Type} {l : List α} {d : α} {i : Nat} (h : l.length ≤ i) : l.getD i d = d := by
  rw [List.getD_eq_getElem?_getD,List.getElem?_eq_none h]; rfl
theorem getD_map_range {α : Type} {f : Nat → α} {d : α} {n i : Nat} (h : i < n) : ((List.range n).map f).getD i d = f i := by
  rw [List.getD_eq_getElem?_getD,List.getElem?_map,List.getElem?_range h]; rfl
theorem gridGo_of {w : Nat} : ∀ {ll : List (List Int)},(∀ r ∈ ll,r.length = w ∧ ∀ n ∈ r,0 ≤ n ∧ n ≤ 255) → gridGo w ll = 0
  | [],_ => rfl
  | r :: t,h => by
    obtain ⟨h1,h2⟩ := h r (by simp)
    have : gridRow w r = 0 := by
      unfold gridRow
      rw [if_pos h1,List.all_eq_true.2 fun n hn => decide_eq_true (h2 n hn)]; rfl
    unfold gridGo
    rw [if_pos this]
    exact gridGo_of fun r hr => h r (by simp [hr])
end Go.Lq

namespace Go.Lq
open Go
open Go.Proofs
section
variable {H : AHeap}
theorem copyImageD_c {ll : List (List Int)} {vs : List Value} {v : Value} (hL : Lists H ll vs v) (hb : ll.length ≤ 1000000) (hr : ∀ i,i < ll.length → (ll.getD i []).length ≤ 1000000) :
    ACall Go.Proofs.Tryz.prog 8 [.agg ⟨[v]⟩] H fun w H' => w = .agg ⟨[retLV H ll]⟩ ∧ H' = H ++ retLN H ll :=
  ACall.tidyL (f := fun s => .agg ⟨[s]⟩) wraps_agg1 ((copyImage_c hL hb hr).mono fun w H' ⟨v',e,ho,hx⟩ => ⟨v',e,hx,ho⟩)
theorem ret_lists {ll : List (List Int)} : ∃ vs,Lists (H ++ retLN H ll) ll vs (retLV H ll) := (OwnL.ret (H0 := H) (Nat.le_refl _)).lists
end
end Go.Lq

namespace Go.Lq
open Go
open Go.Proofs
def pixAt (ll : List (List Int)) (x y : Int) (steps : Nat) (k r : Nat) : Int := ((ringP x y r).map (pix ll)).getD (8 * r * k / steps) 0
def stripRow (ll : List (List Int)) (x y : Int) (steps lo n k : Nat) : List Int := (List.range n).map fun j => pixAt ll x y steps k (lo + j)
def stripL (ll : List (List Int)) (x y : Int) (steps lo n : Nat) : List (List Int) := (List.range steps).map (stripRow ll x y steps lo n)
def unrolledL (ll : List (List Int)) (x y lo hi steps : Int) : List (List Int) × Int :=
  if (1 ≤ lo ∧ lo ≤ 24) ∧ (1 ≤ hi ∧ hi ≤ 24) ∧ (1 ≤ steps ∧ steps ≤ 40) then
    if lo ≤ hi then if hi - lo < 12 then if inR ll x y hi then (stripL ll x y steps.toNat lo.toNat (hi.toNat + 1 - lo.toNat),0) else ([],23) else ([],8) else ([],9)
  else ([],2)
section
variable {H : AHeap}
theorem unrolled1_c (n : Int) : ACall Go.Proofs.Tryz.prog 28 [.int .i64 n] H fun v H' => v = .bool (decide (1 ≤ n ∧ n ≤ 24)) ∧ H' = H := by
  (refine a28 ?_; simp only [n28,List.replicate,yq,yr,yt,yu]; first | refine q1 ?_ | refine q2 ?_ | refine q6 ?_ | refine q7 ?_ | refine qh rfl ?_ | skip)
  (refine yg ?_)
  refine aops_call_to (within_c _ _ _) ?_
  (refine yg ?_)
  exact fin_1 ⟨rfl,rfl⟩
theorem mkSlice_nils {n : Nat} {H : AHeap} (h0 : 0 < n) (hn : n ≤ 1000000000) : mkSliceR 24 [.slice none 0 0] (.int .i64 n) (.int .i64 n) H = some (.slice (some ⟨H.length,0,none⟩) n n,H ++ [.cells true 1 (List.replicate n (.slice none 0 0))]) :=
  mkSlice_zero h0 (roomOk_of (by omega) (by omega)) rfl rfl
theorem OwnR.nils {H : AHeap} (n : Nat) : OwnR H.length (H ++ [.cells true 1 (List.replicate n (.slice none 0 0))]) (List.replicate n []) (List.replicate n (.slice none 0 0)) := by
  have h1 : ∀ i,i < n → (List.replicate n (Value.slice none 0 0)).getD i undef = .slice none 0 0 := fun i hi => by rw [List.getD_eq_getElem?_getD,List.getElem?_replicate,if_pos hi]; rfl
  have h2 : ∀ i,((List.replicate n ([] : List Int)).getD i []) = [] := fun i => by rw [List.getD_eq_getElem?_getD,List.getElem?_replicate]; split <;> rfl
  refine ⟨at_new,by simp,fun i hi => ?_,fun i hi hl => ?_,fun i j _ hi _ hl => ?_⟩
  · rw [h1 i (by simpa using hi),h2]; exact OwnI.nil _ _
  · rw [h2] at hl; simp at hl
  · rw [h2] at hl; simp at hl
theorem unrolled_c {ll : List (List Int)} {vs : List Value} {v : Value} {x y lo hi steps : Int} (hs : SidesAt H) (hL : Lists H ll vs v) (hb : ll.length ≤ 1000000000) (hr : ∀ i,i < ll.length → (ll.getD i []).length ≤ 1000000000) :
    ACall Go.Proofs.Tryz.prog 7 [.agg ⟨[v]⟩,.agg ⟨[.int .i64 x,.int .i64 y,.int .i64 lo,.int .i64 hi,.int .i64 steps]⟩] H fun w H' =>
      w = .tuple #[retLV H (if gridErrL 24 24 ll = 0 then unrolledL ll x y lo hi steps else ([],gridErrL 24 24 ll)).1,.int .i64 (if gridErrL 24 24 ll = 0 then unrolledL ll x y lo hi steps else ([],gridErrL 24 24 ll)).2] ∧
      H' = H ++ retLN H (if gridErrL 24 24 ll = 0 then unrolledL ll x y lo hi steps else ([],gridErrL 24 24 ll)).1 := by
  refine ACall.tidyL (f := fun s => .tuple #[s,.int .i64 (if gridErrL 24 24 ll = 0 then unrolledL ll x y lo hi steps else ([],gridErrL 24 24 ll)).2]) (wraps_1 (.int _ _)) ?_
  (refine a7 ?_; simp only [n7,List.replicate,yq,yr,yt,yu]; first | refine q1 ?_ | refine q2 ?_ | refine q6 ?_ | refine q7 ?_ | refine qh rfl ?_ | skip)
  (repeat (first | refine yv ?_ | (apply yd; simp (disch:=first|exact zz|fail) only[go_sem,hL.box];with_reducible rfl)))
  (simp only [List.length_append,List.length_cons,List.length_nil,Nat.zero_add,Nat.add_assoc,Nat.reduceAdd])
  obtain ⟨G,hG⟩ : ∃ G,G = H ++ [AObj.cells true 0 [v]] ++ [AObj.cells true 0 [.int .i64 x,.int .i64 y,.int .i64 lo,.int .i64 hi,.int .i64 steps]] := ⟨_,rfl⟩
  have g0 : G[H.length]? = some (.cells true 0 [v]) := by rw [hG]; exact at_app at_new
  have g1 : G[H.length + 1]? = some (.cells true 0 [.int .i64 x,.int .i64 y,.int .i64 lo,.int .i64 hi,.int .i64 steps]) := by rw [hG]; simp
  have xG : Ext H G := by rw [hG]; exact ((Ext.refl H).app _).app _
  rw [← hG]
  clear hG
  have n1 : ∀ {G : AHeap} {id : Nat} {a : Value},G[id]? = some (.cells true 0 [a]) → loadNR 1 (.pointer (some ⟨id,0,none⟩)) G = some (.agg ⟨[a]⟩,G) := fun h => loadN_at h (by simp)
  have hLg := hL.ext xG
  refine awp_mid [true,true,true,true,false,false,true,true,false,false,false,false,false,false,false,false,false,false,false,false,false,false,false,false,false,false,false,false,false,false,false,false,false,false,false,false,false,false,false,false,false,false,false,false,false,false,false,false,false,false,false,false,false,false,false,false,false,false,false,false,false,false,false,false,false,false,false,false,false,false,false,false,false,false,false,false,false,false,false,false,false,false,false,false,false,false,false,false,false,false,false,false,false,false,false,false,false,false,false,false,false,false,false,false,false,false,false] (fun e H' => ∃ (b : Bool) (err : Int),(b = true ↔ (1 ≤ lo ∧ lo ≤ 24) ∧ (1 ≤ hi ∧ hi ≤ 24) ∧ (1 ≤ steps ∧ steps ≤ 40)) ∧ err = firstErr [gridErrL 24 24 ll,if b = true then 0 else 2,if decide (lo ≤ hi) = true then 0 else 9,if decide (w64 (hi - lo) < 12) = true then 0 else 8] ∧
    e = [.agg ⟨[v]⟩,.agg ⟨[.int .i64 x,.int .i64 y,.int .i64 lo,.int .i64 hi,.int .i64 steps]⟩,.pointer (some ⟨H.length,0,none⟩),.pointer (some ⟨H.length + 1,0,none⟩),junk,junk,.func (.func 28) #[] #[],.int .i64 err,junk,junk,junk,junk,junk,junk,junk,junk,junk,junk,junk,junk,junk,junk,junk,junk,junk,junk,junk,junk,junk,junk,junk,junk,junk,junk,junk,junk,junk,junk,junk,junk,junk,junk,junk,junk,junk,junk,junk,junk,junk,junk,junk,junk,junk,junk,junk,junk,junk,junk,junk,junk,junk,junk,junk,junk,junk,junk,junk,junk,junk,junk,junk,junk,junk,junk,junk,junk,junk,junk,junk,junk,junk,junk,junk,junk,junk,junk,junk,junk,junk,junk,junk,junk,junk,junk,junk,junk,junk,junk,junk,junk,junk,junk,junk,junk,junk,junk,junk] ∧ Ext G H') ?_ ?_
  · have fin : ∀ (b : Bool),(b = true ↔ (1 ≤ lo ∧ lo ≤ 24) ∧ (1 ≤ hi ∧ hi ≤ 24) ∧ (1 ≤ steps ∧ steps ≤ 40)) → (b = true ↔ (1 ≤ lo ∧ lo ≤ 24) ∧ (1 ≤ hi ∧ hi ≤ 24) ∧ (1 ≤ steps ∧ steps ≤ 40)) := fun _ h => h
    (repeat(first|refine yw ?_|((first|apply yd|apply ye);simp (disch:=first|exact zz|fail) only[go_sem,n1 g0];with_reducible rfl)))
    refine adraw_call (N := []) (firstD (checkImage_c hLg hb hr)) ?_
    rw [List.append_nil]
    (repeat(first|refine yw ?_|((first|apply yd|apply ye);simp (disch:=first|exact zz|fail) only[go_sem,load_at g1];with_reducible rfl)))
    refine adraw_call (N := []) (firstD (unrolled1_c lo)) ?_
    rw [List.append_nil]
    by_cases c1 : 1 ≤ lo ∧ lo ≤ 24
    rotate_left 1
    · (repeat(first|refine yw ?_|((first|apply yd|apply ye);simp (disch:=first|exact zz|fail) only[go_sem,load_at g1,dec_f c1];with_reducible rfl)))
      refine adraw_call (N := []) (firstD (unless_c _ _)) ?_
      rw [List.append_nil]
      (repeat(first|refine yw ?_|((first|apply yd|apply ye);simp (disch:=first|exact zz|fail) only[go_sem,load_at g1];with_reducible rfl)))
      refine adraw_call (N := []) (firstD (unless_c _ _)) ?_
      rw [List.append_nil]
      (repeat(first|refine yw ?_|((first|apply yd|apply ye);simp (disch:=first|exact zz|fail) only[go_sem,load_at g1];with_reducible rfl)))
      refine adraw_call (N := []) (firstD (unless_c _ _)) ?_
      rw [List.append_nil]
      (refine yg ?_)
      refine adraw_call (N := []) (firstD (first_c (l := [_,_,_,_]) (Ints.last (l := [_,_,_,_]) 4) (by simp))) ?_
      rw [List.append_nil]
      (refine yg ?_)
      exact ⟨rfl,false,_,by simp [c1],rfl,by simp [forget],(Ext.refl _).app _⟩
    (repeat(first|refine yw ?_|((first|apply yd|apply ye);simp (disch:=first|exact zz|fail) only[go_sem,load_at g1,dec_t c1];with_reducible rfl)))
    refine adraw_call (N := []) (firstD (unrolled1_c hi)) ?_
    rw [List.append_nil]
    by_cases c2 : 1 ≤ hi ∧ hi ≤ 24
    rotate_left 1
    · (repeat(first|refine yw ?_|((first|apply yd|apply ye);simp (disch:=first|exact zz|fail) only[go_sem,load_at g1,dec_f c2];with_reducible rfl)))
      refine adraw_call (N := []) (firstD (unless_c _ _)) ?_
      rw [List.append_nil]
      (repeat(first|refine yw ?_|((first|apply yd|apply ye);simp (disch:=first|exact zz|fail) only[go_sem,load_at g1];with_reducible rfl)))
      refine adraw_call (N := []) (firstD (unless_c _ _)) ?_
      rw [List.append_nil]
      (repeat(first|refine yw ?_|((first|apply yd|apply ye);simp (disch:=first|exact zz|fail) only[go_sem,load_at g1];with_reducible rfl)))
      refine adraw_call (N := []) (firstD (unless_c _ _)) ?_
      rw [List.append_nil]
      (refine yg ?_)
      refine adraw_call (N := []) (firstD (first_c (l := [_,_,_,_]) (Ints.last (l := [_,_,_,_]) 4) (by simp))) ?_
      rw [List.append_nil]
      (refine yg ?_)
      exact ⟨rfl,false,_,by simp [c2],rfl,by simp [forget],(Ext.refl _).app _⟩
    (repeat(first|refine yw ?_|((first|apply yd|apply ye);simp (disch:=first|exact zz|fail) only[go_sem,load_at g1,dec_t c2];with_reducible rfl)))
    refine adraw_call (N := []) (firstD (within_c _ _ _)) ?_
    rw [List.append_nil]
    (repeat(first|refine yw ?_|((first|apply yd|apply ye);simp (disch:=first|exact zz|fail) only[go_sem,load_at g1];with_reducible rfl)))
    refine adraw_call (N := []) (firstD (unless_c _ _)) ?_
    rw [List.append_nil]
    (repeat(first|refine yw ?_|((first|apply yd|apply ye);simp (disch:=first|exact zz|fail) only[go_sem,load_at g1];with_reducible rfl)))
    refine adraw_call (N := []) (firstD (unless_c _ _)) ?_
    rw [List.append_nil]
    (repeat(first|refine yw ?_|((first|apply yd|apply ye);simp (disch:=first|exact zz|fail) only[go_sem,load_at g1];with_reducible rfl)))
    refine adraw_call (N := []) (firstD (unless_c _ _)) ?_
    rw [List.append_nil]
    (refine yg ?_)
    refine adraw_call (N := []) (firstD (first_c (l := [_,_,_,_]) (Ints.last (l := [_,_,_,_]) 4) (by simp))) ?_
    rw [List.append_nil]
    (refine yg ?_)
    exact ⟨rfl,decide (1 ≤ steps ∧ steps ≤ 40),_,by simp [c1,c2],by rw [show w64 (hi - lo) = hi - lo from w64_id (by omega) (by omega)],by simp [forget],(Ext.refl _).app _⟩
  rintro e H1 ⟨b,err,hb',he,rfl,hx1⟩
  have g01 := hx1.cell g0
  have g11 := hx1.cell g1
  have xH1 := xG.trans hx1
  have spec : (err ≠ 0 ∧ (if gridErrL 24 24 ll = 0 then unrolledL ll x y lo hi steps else ([],gridErrL 24 24 ll)) = ([],err)) ∨
      (err = 0 ∧ gridErrL 24 24 ll = 0 ∧ (1 ≤ lo ∧ lo ≤ 24) ∧ (1 ≤ hi ∧ hi ≤ 24) ∧ (1 ≤ steps ∧ steps ≤ 40) ∧ lo ≤ hi ∧ hi - lo < 12) := by
    by_cases hv : gridErrL 24 24 ll = 0
    rotate_left 1
    · have : err = gridErrL 24 24 ll := by rw [he]; unfold firstErr; simp [hv]
      exact .inl ⟨by rw [this]; exact hv,by rw [if_neg hv,this]⟩
    by_cases hc : (1 ≤ lo ∧ lo ≤ 24) ∧ (1 ≤ hi ∧ hi ≤ 24) ∧ (1 ≤ steps ∧ steps ≤ 40)
    rotate_left 1
    · have hbf : b = false := by cases b with | false => rfl | true => exact absurd (hb'.1 rfl) hc
      have : err = 2 := by rw [he,hbf]; unfold firstErr; simp [hv]
      exact .inl ⟨by omega,by rw [if_pos hv,this]; exact if_neg hc⟩
    have hbt : b = true := hb'.2 hc
    have hw : w64 (hi - lo) = hi - lo := w64_id (by omega) (by omega)
    by_cases h1 : lo ≤ hi
    rotate_left 1
    · have : err = 9 := by rw [he,hbt]; unfold firstErr; simp [hv,h1]
      exact .inl ⟨by omega,by rw [if_pos hv,this]; unfold unrolledL; rw [if_pos hc,if_neg h1]⟩
    by_cases h2 : hi - lo < 12
    rotate_left 1
    · have : err = 8 := by rw [he,hbt,hw]; unfold firstErr; simp [hv,h1,h2]
      exact .inl ⟨by omega,by rw [if_pos hv,this]; unfold unrolledL; rw [if_pos hc,if_pos h1,if_neg h2]⟩
    have : err = 0 := by rw [he,hbt,hw]; unfold firstErr; simp [hv,h1,h2]
    exact .inr ⟨this,hv,hc.1,hc.2.1,hc.2.2,h1,h2⟩
  clear he hb'
  rcases spec with ⟨hne,hres⟩ | ⟨rfl,hv,hlo,hhi,hst,h1,h2⟩
  · rw [hres]
    (repeat(first|refine yw ?_|((first|apply yd|apply ye);simp (disch:=first|exact zz|fail) only[go_sem,dec_f hne];with_reducible rfl)))
    refine cond_f rfl ?_
    (repeat(first|refine yw ?_|((first|apply yd|apply ye);simp (disch:=first|exact zz|fail) only[go_sem,dec_t hne];with_reducible rfl)))
    refine cond_t rfl ?_
    (refine yg ?_)
    exact fin_2 ⟨_,rfl,xH1,OwnL.nil _ _⟩
  obtain ⟨w1,w2,w3,w4,w5,w6⟩ := gridErr_ok hv
  have t1 : (ll.getD 0 []).length ≤ 24 := by omega
  have t2 : ll.length ≤ 24 := by omega
  have e0 : (if gridErrL 24 24 ll = 0 then unrolledL ll x y lo hi steps else ([],gridErrL 24 24 ll)) = if inR ll x y hi then (stripL ll x y steps.toNat lo.toNat (hi.toNat + 1 - lo.toNat),0) else ([],23) := by
    rw [if_pos hv]; unfold unrolledL; rw [if_pos ⟨hlo,hhi,hst⟩,if_pos h1,if_pos h2]
  rw [e0]
  clear e0
  (refine yg ?_)
  refine cond_t rfl ?_
  have hL1 := hL.ext xH1
  (repeat(first|refine yw ?_|((first|apply yd|apply ye);simp (disch:=first|exact zz|fail) only[go_sem,n1 g01,load_at g11,loadN_at g11];with_reducible rfl)))
  refine aops_call_to (ringErr_c hL1 w1 (by omega) (by omega) (by omega)) ?_
  cases hin : inR ll x y hi with
  | false =>
    simp only [Bool.false_eq_true,if_false]
    (refine yg ?_)
    refine cond_t rfl ?_
    (refine yg ?_)
    exact fin_2 ⟨_,rfl,xH1,OwnL.nil _ _⟩
  | true =>
  obtain ⟨⟨i1,i2⟩,i3,i4⟩ := inR_t.1 hin
  obtain ⟨a,rfl⟩ : ∃ a : Nat,lo = a := ⟨lo.toNat,by omega⟩
  obtain ⟨c,rfl⟩ : ∃ c : Nat,hi = c := ⟨hi.toNat,by omega⟩
  obtain ⟨n,rfl⟩ : ∃ n : Nat,steps = n := ⟨steps.toNat,by omega⟩
  rw [if_pos (show true = true from rfl)]
  simp only [Int.toNat_natCast]
  (refine yg ?_)
  refine cond_f rfl ?_
  have hlt11 := (List.getElem?_eq_some_iff.1 g11).1
  (repeat(first|refine yw ?_|((first|apply yd|apply ye);simp (disch:=first|exact zz|fail) only[go_sem,load_at g11,mkSlice_nils (n := n) (by omega) (by omega)];with_reducible rfl)))
  have hk : H.length ≤ H1.length := xH1.len
  have ho0 := OwnR.nils (H := H1) n
  have x0 : Ext H1 (H1 ++ [.cells true 1 (List.replicate n (.slice none 0 0))]) := (Ext.refl H1).app _
  have hrep : List.replicate n ([] : List Int) = (List.range n).map fun k => stripRow ll x y n a 0 k := by
    refine ext_getD (d := []) (by simp) fun i hi => ?_
    rw [getD_map_range (by simpa using hi),List.getD_eq_getElem?_getD,List.getElem?_replicate,if_pos (by simpa using hi)]; rfl
  rw [hrep] at ho0
  have low1 : ∀ {H2 : AHeap},Ext H1 H2 → H2[H.length]? = some (.cells true 0 [v]) := fun h => h.cell g01
  have low2 : ∀ {H2 : AHeap},Ext H1 H2 → H2[H.length + 1]? = some (.cells true 0 [.int .i64 x,.int .i64 y,.int .i64 a,.int .i64 c,.int .i64 n]) := fun h => h.cell g11
  refine awp_loop_n [false,false,true,true,false,false,false,false,true,true,false,false,false,false,false,false,false,false,false,false,false,false,false,false,false,false,false,false,false,false,false,false,false,false,false,false,false,false,false,false,false,false,false,false,false,false,false,false,false,false,false,false,false,false,false,false,false,false,false,false,false,false,false,false,false,false,false,false,false,false,false,false,false,false,false,false,false,false,false,false,false,false,false,false,false,false,false,false,false,false,false,false,false,false,false,false,false,false,false,false,false,false,false,false,false,false,false] (c + 1 - a) (fun i e H' => ∃ vs,e = [junk,junk,.pointer (some ⟨H.length,0,none⟩),.pointer (some ⟨H.length + 1,0,none⟩),junk,junk,junk,junk,.slice (some ⟨H1.length,0,none⟩) n n,.int .i64 ((a + i : Nat) : Int),junk,junk,junk,junk,junk,junk,junk,junk,junk,junk,junk,junk,junk,junk,junk,junk,junk,junk,junk,junk,junk,junk,junk,junk,junk,junk,junk,junk,junk,junk,junk,junk,junk,junk,junk,junk,junk,junk,junk,junk,junk,junk,junk,junk,junk,junk,junk,junk,junk,junk,junk,junk,junk,junk,junk,junk,junk,junk,junk,junk,junk,junk,junk,junk,junk,junk,junk,junk,junk,junk,junk,junk,junk,junk,junk,junk,junk,junk,junk,junk,junk,junk,junk,junk,junk,junk,junk,junk,junk,junk,junk,junk,junk,junk,junk,junk,junk] ∧
    Ext H1 H' ∧ OwnR H1.length H' ((List.range n).map fun k => stripRow ll x y n a i k) vs) ?_ ?_
  · exact ⟨_,by simp [forget],x0,ho0⟩
  clear ho0 x0 hrep
  rintro i e H2 hi ⟨ws,rfl,hx2,ho⟩
  (repeat(first|refine yw ?_|((first|apply yd|apply ye);simp (disch:=first|exact zz|fail) only[go_sem,load_at (low2 hx2)];with_reducible rfl)))
  refine cond_p rfl (fun hlt => ?_) (fun hge => ?_)
  rotate_left 1
  · obtain rfl : i = c + 1 - a := by omega
    (refine yg ?_)
    refine fin_2 ⟨_,rfl,xH1.trans hx2,?_⟩
    have := ho.ownL hk (by simp; omega) (fun j hj => by rw [getD_map_range (by simpa using hj)]; simp [stripRow]; omega)
    simpa [stripL] using this
  have hi' : i < c + 1 - a := by omega
  have xH2 := xH1.trans hx2
  (repeat(first|refine yw ?_|((first|apply yd|apply ye);simp (disch:=first|exact zz|fail) only[go_sem,n1 (low1 hx2),load_at (low2 hx2),loadN_at (low2 hx2)];with_reducible rfl)))
  refine aops_call ((ringOf_c (r := a + i) (xH2.cell hs) (hL.ext xH2) (by omega) ⟨t2,w5,t1,by omega,by omega,by omega,by omega⟩).mono fun w H3 h => ?_)
  obtain ⟨rfl,rfl⟩ := h
  have plen : ((ringP x y (a + i)).map (pix ll)).length = 8 * (a + i) := by rw [List.length_map,ringP_len]
  obtain ⟨px,hpx⟩ : ∃ px,px = (ringP x y (a + i)).map (pix ll) := ⟨_,rfl⟩
  rw [← hpx] at plen ⊢
  have er : retV H2 px.length = .slice (some ⟨H2.length,0,none⟩) px.length px.length := by unfold retV; rw [if_neg (by omega)]
  have en : retN 1 px.length (px.map (.int .i64)) = [.cells true 1 (px.map (.int .i64))] := by unfold retN; rw [if_neg (by omega)]
  rw [er,en]
  obtain ⟨p,hp⟩ : ∃ p,p = H2.length := ⟨_,rfl⟩
  have ho3 := ho.app [.cells true 1 (px.map (.int .i64))]
  have hx3 : Ext H1 (H2 ++ [.cells true 1 (px.map (.int .i64))]) := hx2.app _
  have hpc : (H2 ++ [.cells true 1 (px.map (.int .i64))])[p]? = some (AObj.cells true 1 (px.map (.int .i64))) := by rw [hp]; exact at_new
  have hpa : Aside H1.length ((List.range n).map fun k => stripRow ll x y n a i k) ws p := ⟨by have := ho.lt; omega,fun j hj hl => by have := ho.idlt hj hl; omega⟩
  rw [← hp]
  generalize (H2 ++ [.cells true 1 (px.map (.int .i64))] : AHeap) = H3 at ho3 hx3 hpc
  clear hp er en ho hx2 xH2
  (refine yg ?_)
  refine awp_loop_n [false,false,true,true,false,false,false,false,true,true,true,false,false,false,false,false,false,false,false,false,false,false,false,false,false,false,false,false,false,false,false,false,false,false,false,false,false,false,false,false,false,false,false,false,false,false,false,false,false,false,false,false,false,false,false,false,false,false,false,false,false,false,false,false,false,false,false,false,false,false,false,false,false,false,false,false,false,false,false,false,false,false,true,true,false,false,false,false,false,false,false,false,false,false,false,false,false,false,false,false,false,false,false,false,false,false,false] n (fun j e H' => ∃ vs,e = [junk,junk,.pointer (some ⟨H.length,0,none⟩),.pointer (some ⟨H.length + 1,0,none⟩),junk,junk,junk,junk,.slice (some ⟨H1.length,0,none⟩) n n,.int .i64 ((a + i : Nat) : Int),.slice (some ⟨p,0,none⟩) px.length px.length,junk,junk,junk,junk,junk,junk,junk,junk,junk,junk,junk,junk,junk,junk,junk,junk,junk,junk,junk,junk,junk,junk,junk,junk,junk,junk,junk,junk,junk,junk,junk,junk,junk,junk,junk,junk,junk,junk,junk,junk,junk,junk,junk,junk,junk,junk,junk,junk,junk,junk,junk,junk,junk,junk,junk,junk,junk,junk,junk,junk,junk,junk,junk,junk,junk,junk,junk,junk,junk,junk,junk,.int .i64 n,.int .i64 j,junk,junk,junk,junk,junk,junk,junk,junk,junk,junk,junk,junk,junk,junk,junk,junk,junk,junk,junk,junk,junk,junk,junk] ∧
    Ext H1 H' ∧ OwnR H1.length H' ((List.range n).map fun k => stripRow ll x y n a (if k < j then i + 1 else i) k) vs ∧ H'[p]? = some (AObj.cells true 1 (px.map (.int .i64))) ∧ Aside H1.length ((List.range n).map fun k => stripRow ll x y n a (if k < j then i + 1 else i) k) vs p) ?_ ?_
  · exact ⟨ws,by simp [forget],hx3,by simpa using ho3,hpc,by simpa using hpa⟩
  clear ho3 hx3 hpc hpa
  rintro j e H4 hj ⟨us,rfl,hx4,ho4,hpc4,hpa4⟩
  (refine yg ?_)
  refine cond_p rfl (fun hlt2 => ?_) (fun hge2 => ?_)
  rotate_left 1
  · obtain rfl : j = n := by omega
    (refine yg ?_)
    refine ⟨by omega,us,by simp [forget]; omega,hx4,?_⟩
    have e1 : ((List.range j).map fun k => stripRow ll x y j a (if k < j then i + 1 else i) k) = (List.range j).map fun k => stripRow ll x y j a (i + 1) k := by
      refine List.map_congr_left fun k hk => ?_
      rw [if_pos (by simpa using hk)]
    rw [e1] at ho4
    exact ho4
  have hj' : j < n := by omega
  have hLs := ho4.lists (n := n) (c := n) (by simp)
  have hpI : Ints H4 px (.slice (some ⟨p,0,none⟩) px.length px.length) := Sl.of hpc4 (by simp)
  have hrowj : (((List.range n).map fun k => stripRow ll x y n a (if k < j then i + 1 else i) k).getD j []) = stripRow ll x y n a i j := by rw [getD_map_range hj',if_neg (by omega)]
  have hdiv : px.length * j / n < px.length := Nat.div_lt_of_lt_mul (by rw [Nat.mul_comm n]; exact (Nat.mul_lt_mul_left (by omega)).2 hj')
  have cm : (px.length : Int) * (j : Int) = ((px.length * j : Nat) : Int) := by simp
  have cd : ((px.length * j : Nat) : Int).tdiv (n : Int) = ((px.length * j / n : Nat) : Int) := rfl
  obtain ⟨qq,hqq⟩ : ∃ qq,qq = px.length * j / n := ⟨_,rfl⟩
  rw [← hqq] at hdiv cd
  have hpl : px.length ≤ 8 * 24 := by omega
  have hpj : px.length * j ≤ 8 * 24 * 40 := Nat.mul_le_mul hpl (by omega)
  obtain ⟨v2,H5,ha,hst5,ho5,hge5,hkeep5⟩ := ho4.push (i := j) (by simpa using hj') (by rw [hrowj]; simp [stripRow]; omega) (px.getD qq 0)
  have hlenR : ((List.range n).map fun k => stripRow ll x y n a (if k < j then i + 1 else i) k).length = n := by simp
  (repeat(first|refine yw ?_|((first|apply yd|apply ye);simp (disch:=first|exact zz|fail) only[go_sem,hLs.len,hLs.idx,hLs.load,hpI.len,hpI.idx,hpI.load,load_at (low2 hx4),cm,cd,ha,hst5];with_reducible rfl)))
  have hset : ((List.range n).map fun k => stripRow ll x y n a (if k < j then i + 1 else i) k).set j (stripRow ll x y n a i j ++ [px.getD qq 0]) = (List.range n).map fun k => stripRow ll x y n a (if k < j + 1 then i + 1 else i) k := by
    refine ext_getD (d := []) (by simp) fun k hk => ?_
    have hk' : k < n := by simpa using hk
    rw [getD_set (by simpa using hj'),getD_map_range hk',getD_map_range hk']
    by_cases hkj : k = j
    · subst hkj
      rw [if_pos rfl,if_pos (by omega)]
      simp only [stripRow,List.range_succ,List.map_append,List.map_cons,List.map_nil,pixAt]
      rw [hqq,plen,hpx]
    · rw [if_neg hkj]
      by_cases hlt3 : k < j
      · rw [if_pos hlt3,if_pos (by omega)]
      · rw [if_neg hlt3,if_neg (by omega)]
  rw [hrowj,hset] at ho5
  refine ⟨by omega,us.set j v2,by simp [forget],?_,ho5,hkeep5 p _ hpa4 hpc4,hpa4.1,fun m hm hl => ?_⟩
  · refine ho4.keep hx4 (Nat.le_refl _) ?_ hkeep5
    have := ho5.lt; omega
  · have hm' : m < n := by simpa using hm
    rw [getD_set (by rw [ho4.len]; simpa using hj')]
    by_cases hmj : m = j
    · rw [if_pos hmj]
      have := (List.getElem?_eq_some_iff.1 hpc4).1; omega
    · rw [if_neg hmj]
      refine hpa4.2 m (by simpa using hm') ?_
      rw [getD_map_range hm'] at hl ⊢
      by_cases hlt3 : m < j
      · rw [if_pos hlt3]
        rw [if_pos (by omega)] at hl
        exact hl
      · rw [if_neg hlt3]
        rw [if_neg (by omega)] at hl
        exact hl
end
end Go.Lq

namespace Go.Lq
open Go
open Go.Proofs
section
variable {H : AHeap}
theorem gridErr1S_c {id : Nat} {top : Int} (hc : H[id]? = some (.cells true 0 [.int .i64 top])) : AsksAt H (.func (.func 98) #[] #[.pointer (some ⟨id,0,none⟩)]) (fun n => !decide (0 ≤ n ∧ n ≤ top)) := fun n => by
  show ACall _ _ _ _ _
  simp only [List.append_nil,List.nil_append,List.cons_append]
  (refine a98 ?_; simp only [n98,List.replicate,yq,yr,yt,yu]; first | refine q1 ?_ | refine q2 ?_ | refine q6 ?_ | refine q7 ?_ | refine qh rfl ?_ | skip)
  (repeat(first|refine yw ?_|((first|apply yd|apply ye);simp (disch:=first|exact zz|fail) only[go_sem,load_at hc];with_reducible rfl)))
  refine aops_call_to (within_c _ _ _) ?_
  (refine yg ?_)
  exact fin_1 ⟨rfl,rfl⟩
theorem gridErrS_c {ll : List (List Int)} {vs : List Value} {v : Value} {rows cols : Int} (hL : Lists H ll vs v) (hb : ll.length ≤ 1000000000) (hr : ∀ i,i < ll.length → (ll.getD i []).length ≤ 1000000000) :
    ACall Go.Proofs.Tryz.prog 82 [v,.int .i64 rows,.int .i64 cols,.int .i64 255] H fun v1 H1 => v1 = .int .i64 (gridErrL rows cols ll) ∧ H1 = H := by
  refine ACall.drop (.int _ _) ?_
  (refine a82 ?_; simp only [n82,List.replicate,yq,yr,yt,yu]; first | refine q1 ?_ | refine q2 ?_ | refine q6 ?_ | refine q7 ?_ | refine qh rfl ?_ | skip)
  have z0 : (0 : Int).toNat = 0 := rfl
  have hbox : (H ++ [.cells true 0 [.int .i64 255]])[H.length]? = some (AObj.cells true 0 [.int .i64 255]) := at_new
  have xG : Ext H (H ++ [.cells true 0 [.int .i64 255]]) := (Ext.refl H).app _
  by_cases h0 : ll.length = 0
  · have e1 : gridErrL rows cols ll = 10 := by unfold gridErrL; rw [if_pos (.inl h0)]
    (repeat(first|refine yw ?_|((first|apply yd|apply ye);simp (disch:=first|exact zz|fail) only[go_sem,hL.len,hL.idx,hL.load,box_int,dec_t (show (ll.length : Int) = 0 by omega)];with_reducible rfl)))
    refine cond_t rfl ?_
    (refine yg ?_)
    exact fin_1 ⟨by rw [e1]; rfl,xG⟩
  have hrow0 := hL.row (k := 0) (by omega)
  by_cases h1 : (ll.getD 0 []).length = 0
  · have e1 : gridErrL rows cols ll = 10 := by unfold gridErrL; rw [if_pos (.inr h1)]
    (repeat(first|refine yw ?_|((first|apply yd|apply ye);simp (disch:=first|exact zz|fail) only[go_sem,hL.len,hL.idx,hL.load,hrow0.len,hrow0.idx,hrow0.load,box_int,z0,dec_f (show ¬ (ll.length : Int) = 0 by omega),dec_t (show ((ll.getD 0 []).length : Int) = 0 by omega)];with_reducible rfl)))
    refine cond_t rfl ?_
    (refine yg ?_)
    exact fin_1 ⟨by rw [e1]; rfl,xG⟩
  (repeat(first|refine yw ?_|((first|apply yd|apply ye);simp (disch:=first|exact zz|fail) only[go_sem,hL.len,hL.idx,hL.load,hrow0.len,hrow0.idx,hrow0.load,box_int,z0,dec_f (show ¬ (ll.length : Int) = 0 by omega),dec_f (show ¬ ((ll.getD 0 []).length : Int) = 0 by omega)];with_reducible rfl)))
  refine cond_f rfl ?_
  replace hL := hL.ext xG
  replace hrow0 := hrow0.ext xG
  generalize (H ++ [.cells true 0 [.int .i64 255]] : AHeap) = G at hbox xG hL hrow0
  have g0 : ¬ (ll.length = 0 ∨ (ll.getD 0 []).length = 0) := by omega
  by_cases h2 : rows < ll.length
  · have e1 : gridErrL rows cols ll = 8 := by unfold gridErrL; rw [if_neg g0,if_pos (.inl h2)]
    (repeat(first|refine yw ?_|((first|apply yd|apply ye);simp (disch:=first|exact zz|fail) only[go_sem,hL.len,hL.idx,hL.load,dec_t h2];with_reducible rfl)))
    refine cond_t rfl ?_
    (refine yg ?_)
    exact fin_1 ⟨by rw [e1]; rfl,xG⟩
  by_cases h3 : cols < (ll.getD 0 []).length
  · have e1 : gridErrL rows cols ll = 8 := by unfold gridErrL; rw [if_neg g0,if_pos (.inr h3)]
    (repeat(first|refine yw ?_|((first|apply yd|apply ye);simp (disch:=first|exact zz|fail) only[go_sem,hL.len,hL.idx,hL.load,hrow0.len,hrow0.idx,hrow0.load,z0,dec_f h2,dec_t h3];with_reducible rfl)))
    refine cond_t rfl ?_
    (refine yg ?_)
    exact fin_1 ⟨by rw [e1]; rfl,xG⟩
  (repeat(first|refine yw ?_|((first|apply yd|apply ye);simp (disch:=first|exact zz|fail) only[go_sem,hL.len,hL.idx,hL.load,hrow0.len,hrow0.idx,hrow0.load,z0,dec_f h2,dec_f h3];with_reducible rfl)))
  refine cond_f rfl ?_
  have e1 : gridErrL rows cols ll = gridGo (ll.getD 0 []).length ll := by unfold gridErrL; rw [if_neg g0,if_neg (by omega)]
  (repeat(first|refine yw ?_|((first|apply yd|apply ye);simp (disch:=first|exact zz|fail) only[go_sem,hL.len,hL.idx,hL.load];with_reducible rfl)))
  refine awp_loop_n [true,false,false,false,false,false,false,true,false,false,false,false,false,false,false,false,false,false,false,false,false,false,false,false,false,false,false,false,false,false,false,false,false,false,false,true,true,true,false,false,false,false,false,false,false,false,false,false,false,false,false,false,false,false,false,false,false,false,false,false,false] ll.length (fun i e H' => e = [v,junk,junk,junk,junk,junk,junk,.pointer (some ⟨H.length,0,none⟩),junk,junk,junk,junk,junk,junk,junk,junk,junk,junk,junk,junk,junk,junk,junk,junk,junk,junk,junk,junk,junk,junk,junk,junk,junk,junk,junk,v,.int .i64 ll.length,.int .i64 i,junk,junk,junk,junk,junk,junk,junk,junk,junk,junk,junk,junk,junk,junk,junk,junk,junk,junk,junk,junk,junk,junk,junk] ∧ Ext G H' ∧ gridGo (ll.getD 0 []).length (ll.drop i) = gridGo (ll.getD 0 []).length ll) ?_ ?_
  · exact ⟨by simp [forget],Ext.refl _,rfl⟩
  rintro i e H1 hi ⟨rfl,hx,hv⟩
  have hL1 := hL.ext hx
  have hrow01 := hrow0.ext hx
  have hbox1 : H1[H.length]? = some (AObj.cells true 0 [.int .i64 255]) := by obtain ⟨N,rfl⟩ := hx; exact at_app hbox
  (refine yg ?_)
  refine cond_p rfl (fun hlt => ?_) (fun hge => ?_)
  · have hi' : i < ll.length := by omega
    have hrow := hL1.row hi'
    have hrl := hr i hi'
    rw [gridGo_step hi'] at hv
    (repeat(first|refine yw ?_|((first|apply yd|apply ye);simp (disch:=first|exact zz|fail) only[go_sem,hL1.len,hL1.idx,hL1.load];with_reducible rfl)))
    refine aops_call_to (containsFuncAt_c hrow (gridErr1S_c hbox1) (by omega)) ?_
    (repeat(first|refine yw ?_|((first|apply yd|apply ye);simp (disch:=first|exact zz|fail) only[go_sem,hL1.len,hL1.idx,hL1.load,hrow.len,hrow.idx,hrow.load,hrow01.len,hrow01.idx,hrow01.load,z0];with_reducible rfl)))
    refine aops_call_to (unless_c _ _) ?_
    (refine yg ?_)
    refine aops_call_to (unless_c _ _) ?_
    (refine yg ?_)
    refine aops_call_to (first_c (l := [_,_]) (Ints.last (l := [_,_]) 2) (by simp)) ?_
    rw [firstErr_gridRow]
    (refine yg ?_)
    refine cond_p rfl (fun hne => ?_) (fun heq => ?_)
    · rw [if_neg hne] at hv
      (refine yg ?_)
      exact fin_1 ⟨by rw [e1,← hv]; rfl,(xG.trans hx).app _⟩
    · rw [if_pos (Decidable.not_not.1 heq)] at hv
      (refine yg ?_)
      exact ⟨by omega,by simp [forget],hx.app _,hv⟩
  · rw [gridGo_end (by omega)] at hv
    (refine yg ?_)
    exact fin_1 ⟨by rw [e1,← hv]; rfl,xG.trans hx⟩
def taskErrL (ll : List (List Int)) (bend : Int) : Int := if gridErrL 40 12 ll = 0 then (if 0 ≤ bend ∧ bend ≤ 1000 then 0 else 2) else gridErrL 40 12 ll
theorem stripErr_c {ll : List (List Int)} {vs : List Value} {v : Value} (hL : Lists H ll vs v) (hb : ll.length ≤ 1000000000) (hr : ∀ i,i < ll.length → (ll.getD i []).length ≤ 1000000000) :
    ACall Go.Proofs.Tryz.prog 35 [v] H fun v1 H1 => v1 = .int .i64 (gridErrL 40 12 ll) ∧ H1 = H := by
  (refine a35 ?_; simp only [n35,List.replicate,yq,yr,yt,yu]; first | refine q1 ?_ | refine q2 ?_ | refine q6 ?_ | refine q7 ?_ | refine qh rfl ?_ | skip)
  (refine yg ?_)
  refine aops_call_to (refGridErr_c hL hb hr) ?_
  (refine yg ?_)
  exact fin_1 ⟨rfl,rfl⟩
theorem checkStrip_c {ll : List (List Int)} {vs : List Value} {v : Value} (hL : Lists H ll vs v) (hb : ll.length ≤ 1000000000) (hr : ∀ i,i < ll.length → (ll.getD i []).length ≤ 1000000000) :
    ACall Go.Proofs.Tryz.prog 64 [v] H fun v1 H1 => v1 = .int .i64 (gridErrL 40 12 ll) ∧ H1 = H := by
  (refine a64 ?_; simp only [n64,List.replicate,yq,yr,yt,yu]; first | refine q1 ?_ | refine q2 ?_ | refine q6 ?_ | refine q7 ?_ | refine qh rfl ?_ | skip)
  (refine yg ?_)
  refine aops_call_to (gridErrS_c hL hb hr) ?_
  (refine yg ?_)
  exact fin_1 ⟨rfl,rfl⟩
theorem Lists.box2 {ll : List (List Int)} {vs : List Value} {v : Value} {n : Int} (h : Lists H ll vs v) {H' : AHeap} : boxR (.agg ⟨[v,.int .i64 n]⟩) H' = some (.pointer (some ⟨H'.length,0,none⟩),H' ++ [.cells true 0 [v,.int .i64 n]]) :=
  box_agg (by simp [h.atom,isAtom_int])
theorem taskErr_c {ll : List (List Int)} {vs : List Value} {v : Value} {bend : Int} (hL : Lists H ll vs v) (hb : ll.length ≤ 1000000000) (hr : ∀ i,i < ll.length → (ll.getD i []).length ≤ 1000000000) :
    ACall Go.Proofs.Tryz.prog 9 [.agg ⟨[v,.int .i64 bend]⟩] H fun v1 H1 => v1 = .int .i64 (taskErrL ll bend) ∧ H1 = H := by
  refine ACall.drop (.int _ _) ?_
  (refine a9 ?_; simp only [n9,List.replicate,yq,yr,yt,yu]; first | refine q1 ?_ | refine q2 ?_ | refine q6 ?_ | refine q7 ?_ | refine qh rfl ?_ | skip)
  (repeat(first|refine yw ?_|((first|apply yd|apply ye);simp (disch:=first|exact zz|fail) only[go_sem,hL.box2];with_reducible rfl)))
  have xG : Ext H (H ++ [AObj.cells true 0 [v,.int .i64 bend]]) := (Ext.refl H).app _
  refine aops_call_to (stripErr_c (hL.ext xG) hb hr) ?_
  (refine yg ?_)
  refine cond_p rfl (fun hne => ?_) (fun heq => ?_)
  · (refine yg ?_)
    exact fin_1 ⟨by unfold taskErrL; rw [if_neg hne]; rfl,xG⟩
  · have heq' : gridErrL 40 12 ll = 0 := Decidable.not_not.1 heq
    (refine yg ?_)
    refine aops_call_to (bwithin_c _ _ _) ?_
    (refine yg ?_)
    refine cond_n rfl (fun hn => ?_) (fun hy => ?_)
    · (refine yg ?_)
      exact fin_1 ⟨by unfold taskErrL; rw [if_pos heq',if_neg hn]; rfl,xG⟩
    · (refine yg ?_)
      exact fin_1 ⟨by unfold taskErrL; rw [if_pos heq',if_pos hy]; rfl,xG⟩
theorem store_at2v {id e : Nat} {x y a b : Value} (h : H[id]? = some (.cells true e [x,y])) (ha : isAtom a = true) (hb : isAtom b = true) : storeR 2 (.pointer (some ⟨id,0,none⟩)) (.agg ⟨[a,b]⟩) H = some (undef,H.set id (.cells true e [a,b])) := by
  have e1 : (Value.agg ⟨[a,b]⟩).cells = ⟨[a,b]⟩ := rfl
  have e2 : ([a,b] : List Value).all isAtom = true := by simp [ha,hb]
  have e3 : setCells [x,y] 0 [a,b] = [a,b] := rfl
  simp only [storeR,e1,List.size_toArray,storeAt,h,e2,e3,and_true,List.length_cons,List.length_nil]
  rfl
theorem fillA_two {a b x y : Value} (ha : isAtom a = true) (hb : isAtom b = true) : fillA [x,y] [(0,2,.agg ⟨[a,b]⟩)] = some [a,b] := by
  have e1 : (Value.agg ⟨[a,b]⟩).cells = ⟨[a,b]⟩ := rfl
  have e2 : ([a,b] : List Value).all isAtom = true := by simp [ha,hb]
  simp only [fillA,e1,List.size_toArray,e2,List.length_cons,List.length_nil]
  rfl
theorem open_c {ll : List (List Int)} {vs : List Value} {v : Value} {bend : Int} (hL : Lists H ll vs v) (hb : ll.length ≤ 1000000000) (hr : ∀ i,i < ll.length → (ll.getD i []).length ≤ 1000000000) :
    ACall Go.Proofs.Tryz.prog 36 [.agg ⟨[v,.int .i64 bend]⟩] H fun v1 H1 => v1 = .tuple #[.agg ⟨[v,.int .i64 bend]⟩,.int .i64 (taskErrL ll bend)] ∧ Ext H H1 := by
  (refine a36 ?_; simp only [n36,List.replicate,yq,yr,yt,yu]; first | refine q1 ?_ | refine q2 ?_ | refine q6 ?_ | refine q7 ?_ | refine qh rfl ?_ | skip)
  (repeat(first|refine yw ?_|((first|apply yd|apply ye);simp (disch:=first|exact zz|fail) only[go_sem,hL.box2];with_reducible rfl)))
  (simp only [List.length_append,List.length_cons,List.length_nil,Nat.zero_add,Nat.add_assoc,Nat.reduceAdd])
  obtain ⟨G,hG⟩ : ∃ G,G = H ++ [AObj.cells true 0 [v,.int .i64 bend]] ++ [AObj.cells true 0 [.slice none 0 0,.int .i64 0]] := ⟨_,rfl⟩
  have g0 : G[H.length]? = some (.cells true 0 [v,.int .i64 bend]) := by rw [hG]; exact at_app at_new
  have g1 : G[H.length + 1]? = some (.cells true 0 [.slice none 0 0,.int .i64 0]) := by rw [hG]; simp
  have xG : Ext H G := by rw [hG]; exact ((Ext.refl H).app _).app _
  rw [← hG]
  clear hG
  have hLg := hL.ext xG
  (repeat(first|refine yw ?_|((first|apply yd|apply ye);simp (disch:=first|exact zz|fail) only[go_sem,loadN_at g0,load_at g0,fillA_two hL.atom (isAtom_int .i64 bend)];with_reducible rfl)))
  refine adraw_call (N := []) (firstD (checkStrip_c hLg hb hr)) ?_
  rw [List.append_nil]
  (repeat(first|refine yw ?_|((first|apply yd|apply ye);simp (disch:=first|exact zz|fail) only[go_sem,load_at g0];with_reducible rfl)))
  refine adraw_call (N := []) (firstD (within_c _ _ _)) ?_
  rw [List.append_nil]
  (refine yg ?_)
  refine adraw_call (N := []) (firstD (unless_c _ _)) ?_
  rw [List.append_nil]
  (refine yg ?_)
  refine adraw_call (N := []) (firstD (first_c (l := [_,_]) (Ints.last (l := [_,_]) 2) (by simp))) ?_
  rw [List.append_nil]
  have he : firstErr [gridErrL 40 12 ll,if decide (0 ≤ bend ∧ bend ≤ 1000) = true then 0 else 2] = taskErrL ll bend := by
    unfold firstErr taskErrL
    by_cases h1 : gridErrL 40 12 ll = 0
    · by_cases h2 : 0 ≤ bend ∧ bend ≤ 1000 <;> simp [h1,h2]
    · simp [h1]
  rw [he]
  have hst := store_at2v (at_app (N := [AObj.cells true 1 [.int .i64 (gridErrL 40 12 ll),.int .i64 (if decide (0 ≤ bend ∧ bend ≤ 1000) = true then 0 else 2)]]) g1) hL.atom (isAtom_int .i64 bend)
  (repeat(first|refine yw ?_|((first|apply yd|apply ye);simp (disch:=first|exact zz|fail) only[go_sem,hst];with_reducible rfl)))
  refine fin_l2 (u := .agg ⟨[v,.int .i64 bend]⟩) ?_ ⟨rfl,?_⟩
  · exact loadN_at (k := 0) (get_set_self (at_app g1)) (by simp)
  · exact (xG.app _).set (by omega) _
theorem last_c {ll : List (List Int)} {vs : List Value} {v : Value} {bend : Int} (hL : Lists H ll vs v) (hb : ll.length ≤ 1000000000) :
    ACall Go.Proofs.Tryz.prog 43 [.agg ⟨[v,.int .i64 bend]⟩] H fun v1 H1 => v1 = .int .i64 ((ll.length : Int) - 1) ∧ H1 = H := by
  refine ACall.drop (.int _ _) ?_
  (refine a43 ?_; simp only [n43,List.replicate,yq,yr,yt,yu]; first | refine q1 ?_ | refine q2 ?_ | refine q6 ?_ | refine q7 ?_ | refine qh rfl ?_ | skip)
  (repeat(first|refine yw ?_|((first|apply yd|apply ye);simp (disch:=first|exact zz|fail) only[go_sem,hL.box2];with_reducible rfl)))
  have hLg := hL.ext ((Ext.refl H).app [AObj.cells true 0 [v,.int .i64 bend]])
  (repeat(first|refine yw ?_|((first|apply yd|apply ye);simp (disch:=first|exact zz|fail) only[go_sem,hLg.len,hLg.idx,hLg.load];with_reducible rfl)))
  exact fin_1 ⟨rfl,(Ext.refl H).app _⟩
theorem columns_c {ll : List (List Int)} {vs : List Value} {v : Value} {bend : Int} (hL : Lists H ll vs v) (h0 : 0 < ll.length) :
    ACall Go.Proofs.Tryz.prog 44 [.agg ⟨[v,.int .i64 bend]⟩] H fun v1 H1 => v1 = .int .i64 ((ll.getD 0 []).length) ∧ H1 = H := by
  refine ACall.drop (.int _ _) ?_
  (refine a44 ?_; simp only [n44,List.replicate,yq,yr,yt,yu]; first | refine q1 ?_ | refine q2 ?_ | refine q6 ?_ | refine q7 ?_ | refine qh rfl ?_ | skip)
  have hLg := hL.ext ((Ext.refl H).app [AObj.cells true 0 [v,.int .i64 bend]])
  have hrow := hLg.row h0
  (repeat(first|refine yw ?_|((first|apply yd|apply ye);simp (disch:=first|exact zz|fail) only[go_sem,hLg.len,hLg.idx,hLg.load,hrow.len,hrow.idx,hrow.load,hL.box2,show (0 : Int).toNat = 0 from rfl];with_reducible rfl)))
  exact fin_1 ⟨rfl,(Ext.refl H).app _⟩
def bendI (bend a b : Int) : Int := if a = b then 0 else bend
theorem bend_c {ll : List (List Int)} {vs : List Value} {v : Value} {bend a b : Int} (hL : Lists H ll vs v) :
    ACall Go.Proofs.Tryz.prog 68 [.agg ⟨[v,.int .i64 bend]⟩,.int .i64 a,.int .i64 b] H fun v1 H1 => v1 = .int .i64 (bendI bend a b) ∧ H1 = H := by
  refine ACall.drop (.int _ _) ?_
  (refine a68 ?_; simp only [n68,List.replicate,yq,yr,yt,yu]; first | refine q1 ?_ | refine q2 ?_ | refine q6 ?_ | refine q7 ?_ | refine qh rfl ?_ | skip)
  (repeat(first|refine yw ?_|((first|apply yd|apply ye);simp (disch:=first|exact zz|fail) only[go_sem,hL.box2];with_reducible rfl)))
  refine cond_p rfl (fun h => ?_) (fun h => ?_)
  · (refine yg ?_)
    exact fin_1 ⟨by unfold bendI; rw [if_pos h]; rfl,(Ext.refl H).app _⟩
  · (refine yg ?_)
    exact fin_1 ⟨by unfold bendI; rw [if_neg h]; rfl,(Ext.refl H).app _⟩
end
end Go.Lq

namespace Go.Lq
open Go
open Go.Proofs
theorem store_ptr {k e : Nat} {H : AHeap} {vs : List Value} {v : Value} {i : Nat} (h : H[k]? = some (.cells true e vs)) (hi : i < vs.length) (ha : isAtom v = true) (hc : v.cells = ⟨[v]⟩) :
    storeR 1 (.pointer (some ⟨k,i,none⟩)) v H = some (undef,H.set k (.cells true e (vs.set i v))) := by
  have := store_cell (n := 0) (c := 0) h hi ha hc
  simpa [addrOf] using this
def pathBad (w : Int) (p : List Int) (i : Nat) : Int :=
  if 0 ≤ p.getD i 0 ∧ p.getD i 0 ≤ w - 1 then (if i = 0 ∨ (-1 ≤ p.getD i 0 - p.getD (i - 1) 0 ∧ p.getD i 0 - p.getD (i - 1) 0 ≤ 1) then 0 else 9) else 6
def pathGo (w : Int) (p : List Int) : Nat → Nat → Int
  | 0,_ => 0
  | n + 1,i => if pathBad w p i = 0 then pathGo w p n (i + 1) else pathBad w p i
def pathErrL (ll : List (List Int)) (p : List Int) : Int := if p.length = ll.length then pathGo ((ll.getD 0 []).length) p p.length 0 else 10
theorem pathGo_all {w : Int} {p : List Int} : ∀ {n i : Nat},pathGo w p n i = 0 → ∀ j,i ≤ j → j < i + n → pathBad w p j = 0
  | 0,i,_,j,h1,h2 => by omega
  | n + 1,i,h,j,h1,h2 => by
    unfold pathGo at h
    split at h
    · rename_i hb
      by_cases hj : j = i
      · subst hj; exact hb
      · exact pathGo_all h j (by omega) (by omega)
    · rename_i hb; exact absurd h hb
theorem pathBad_ok {w : Int} {p : List Int} {i : Nat} (h : pathBad w p i = 0) : (0 ≤ p.getD i 0 ∧ p.getD i 0 ≤ w - 1) ∧ (i = 0 ∨ (-1 ≤ p.getD i 0 - p.getD (i - 1) 0 ∧ p.getD i 0 - p.getD (i - 1) 0 ≤ 1)) := by
  unfold pathBad at h
  split at h
  · rename_i h1
    split at h
    · rename_i h2; exact ⟨h1,h2⟩
    · cases h
  · cases h
theorem pathErr_ok {ll : List (List Int)} {p : List Int} (h : pathErrL ll p = 0) : p.length = ll.length ∧ ∀ i,i < p.length → (0 ≤ p.getD i 0 ∧ p.getD i 0 ≤ ((ll.getD 0 []).length : Int) - 1) ∧ (i = 0 ∨ (-1 ≤ p.getD i 0 - p.getD (i - 1) 0 ∧ p.getD i 0 - p.getD (i - 1) 0 ≤ 1)) := by
  unfold pathErrL at h
  split at h
  · rename_i h1
    exact ⟨h1,fun i hi => pathBad_ok (pathGo_all h i (by omega) (by omega))⟩
  · cases h
section
variable {H : AHeap}
theorem copyTask_c {ll : List (List Int)} {vs : List Value} {v : Value} {bend : Int} (hL : Lists H ll vs v) (hb : ll.length ≤ 1000000) (hr : ∀ i,i < ll.length → (ll.getD i []).length ≤ 1000000) :
    ACall Go.Proofs.Tryz.prog 11 [.agg ⟨[v,.int .i64 bend]⟩] H fun w H' => w = .agg ⟨[retLV H ll,.int .i64 bend]⟩ ∧ H' = H ++ retLN H ll := by
  refine ACall.tidyL (f := fun s => .agg ⟨[s,.int .i64 bend]⟩) (wraps_agg2 (.int _ _)) ?_
  (refine a11 ?_; simp only [n11,List.replicate,yq,yr,yt,yu]; first | refine q1 ?_ | refine q2 ?_ | refine q6 ?_ | refine q7 ?_ | refine qh rfl ?_ | skip)
  (repeat(first|refine yw ?_|((first|apply yd|apply ye);simp (disch:=first|exact zz|fail) only[go_sem,hL.box2];with_reducible rfl)))
  (simp only [List.length_append,List.length_cons,List.length_nil,Nat.zero_add,Nat.add_assoc,Nat.reduceAdd])
  obtain ⟨G,hG⟩ : ∃ G,G = H ++ [AObj.cells true 0 [v,.int .i64 bend]] ++ [AObj.cells true 0 [.slice none 0 0,.int .i64 0]] := ⟨_,rfl⟩
  have g0 : G[H.length]? = some (.cells true 0 [v,.int .i64 bend]) := by rw [hG]; exact at_app at_new
  have g1 : G[H.length + 1]? = some (.cells true 0 [.slice none 0 0,.int .i64 0]) := by rw [hG]; simp
  have xG : Ext H G := by rw [hG]; exact ((Ext.refl H).app _).app _
  have lG : G.length = H.length + 2 := by rw [hG]; simp
  rw [← hG]
  clear hG
  (repeat(first|refine yw ?_|((first|apply yd|apply ye);simp (disch:=first|exact zz|fail) only[go_sem,load_at g0];with_reducible rfl)))
  refine aops_call ((copyLists_c (hL.ext xG) hb hr).mono fun v1 H1 ⟨ho,hx⟩ => ?_)
  have h0 := hx.cell g0
  have h1 := hx.cell g1
  obtain ⟨sa,sn,sc,rfl⟩ := ho.shape
  (repeat(first|refine yw ?_|((first|apply yd|apply ye);simp (disch:=first|exact zz|fail) only[go_sem,store_ptr (v := .slice sa sn sc) (i := 0) h0 (by simp) rfl rfl];with_reducible rfl)))
  have h0' := get_set_self (d := .cells true 0 [.slice sa sn sc,.int .i64 bend]) h0
  have h1' : (H1.set H.length (.cells true 0 [.slice sa sn sc,.int .i64 bend]))[H.length + 1]? = some (.cells true 0 [.slice none 0 0,.int .i64 0]) := by rw [List.getElem?_set_ne (by omega)]; exact h1
  have xs : Ext H (H1.set H.length (.cells true 0 [.slice sa sn sc,.int .i64 bend])) := (xG.trans hx).set (Nat.le_refl _) _
  have os := ho.set (k := H.length) (by omega) (.cells true 0 [.slice sa sn sc,.int .i64 bend])
  generalize (H1.set H.length (.cells true 0 [.slice sa sn sc,.int .i64 bend]) : AHeap) = H2 at h0' h1' xs os
  (repeat(first|refine yw ?_|((first|apply yd|apply ye);simp (disch:=first|exact zz|fail) only[go_sem,loadN_at h0',store_at2v (a := .slice sa sn sc) (b := .int .i64 bend) h1' rfl rfl];with_reducible rfl)))
  refine fin_l1 (u := .agg ⟨[.slice sa sn sc,.int .i64 bend]⟩) ?_ ?_
  · exact loadN_at (k := 0) (get_set_self h1') (by simp)
  · exact ⟨_,rfl,xs.set (by omega) _,(os.set (by omega) _).weaken xG.len⟩
theorem pathErr_c {ll : List (List Int)} {vs : List Value} {v vp : Value} {bend : Int} {p : List Int} (hL : Lists H ll vs v) (hp : Ints H p vp) (h0 : 0 < ll.length) (hb : ll.length ≤ 1000) (hw : (ll.getD 0 []).length ≤ 1000) :
    ACall Go.Proofs.Tryz.prog 70 [.agg ⟨[v,.int .i64 bend]⟩,vp] H fun v1 H1 => v1 = .int .i64 (pathErrL ll p) ∧ H1 = H := by
  refine ACall.drop (.int _ _) ?_
  (refine a70 ?_; simp only [n70,List.replicate,yq,yr,yt,yu]; first | refine q1 ?_ | refine q2 ?_ | refine q6 ?_ | refine q7 ?_ | refine qh rfl ?_ | skip)
  (repeat(first|refine yw ?_|((first|apply yd|apply ye);simp (disch:=first|exact zz|fail) only[go_sem,hL.box2];with_reducible rfl)))
  have g0 : (H ++ [AObj.cells true 0 [v,.int .i64 bend]])[H.length]? = some (.cells true 0 [v,.int .i64 bend]) := at_new
  have xG : Ext H (H ++ [AObj.cells true 0 [v,.int .i64 bend]]) := (Ext.refl H).app _
  have hLg := hL.ext xG
  have hpg := hp.ext xG
  generalize (H ++ [AObj.cells true 0 [v,.int .i64 bend]] : AHeap) = G at g0 xG hLg hpg
  (repeat(first|refine yw ?_|((first|apply yd|apply ye);simp (disch:=first|exact zz|fail) only[go_sem,hLg.len,hLg.idx,hLg.load,hpg.len,hpg.idx,hpg.load,load_at g0];with_reducible rfl)))
  refine cond_p rfl (fun hne => ?_) (fun heq => ?_)
  · (refine yg ?_)
    exact fin_1 ⟨by unfold pathErrL; rw [if_neg (by omega)]; rfl,xG⟩
  have he : p.length = ll.length := by omega
  have e0 : pathErrL ll p = pathGo ((ll.getD 0 []).length) p p.length 0 := by unfold pathErrL; rw [if_pos he]
  (repeat(first|refine yw ?_|((first|apply yd|apply ye);simp (disch:=first|exact zz|fail) only[go_sem,hpg.len,hpg.idx,hpg.load];with_reducible rfl)))
  refine awp_loop_n [false,true,true,false,false,false,false,false,false,false,false,false,false,false,true,true,true,false,false,false,false,false,false,false,false,false,false,false,false,false,false,false,false,false,false,false,false,false,false,false,false] p.length (fun i e H' => H' = G ∧ e = [junk,vp,.pointer (some ⟨H.length,0,none⟩),junk,junk,junk,junk,junk,junk,junk,junk,junk,junk,junk,vp,.int .i64 p.length,.int .i64 i,junk,junk,junk,junk,junk,junk,junk,junk,junk,junk,junk,junk,junk,junk,junk,junk,junk,junk,junk,junk,junk,junk,junk,junk] ∧ pathGo ((ll.getD 0 []).length) p (p.length - i) i = pathErrL ll p ∧
    ∀ j,j < i → 0 ≤ p.getD j 0 ∧ p.getD j 0 ≤ ((ll.getD 0 []).length : Int) - 1) ?_ ?_
  · exact ⟨rfl,by simp [forget],by rw [e0]; rfl,by omega⟩
  rintro i e H1 hi ⟨rfl,rfl,hv,hbef⟩
  (refine yg ?_)
  refine cond_p rfl (fun hlt => ?_) (fun hge => ?_)
  rotate_left 1
  · rw [show p.length - i = 0 by omega] at hv
    (refine yg ?_)
    exact fin_1 ⟨by rw [← hv]; rfl,xG⟩
  have hi' : i < p.length := by omega
  rw [show p.length - i = (p.length - (i + 1)) + 1 by omega,pathGo] at hv
  (repeat(first|refine yw ?_|((first|apply yd|apply ye);simp (disch:=first|exact zz|fail) only[go_sem,hpg.len,hpg.idx,hpg.load,loadN_at g0];with_reducible rfl)))
  refine aops_call_to (columns_c hLg h0) ?_
  (refine yg ?_)
  refine aops_call_to (within_c _ _ _) ?_
  (refine yg ?_)
  refine cond_n rfl (fun hout => ?_) (fun hin => ?_)
  · have hb6 : pathBad ((ll.getD 0 []).length) p i = 6 := by unfold pathBad; rw [if_neg hout]
    rw [hb6,if_neg (by decide)] at hv
    (refine yg ?_)
    exact fin_1 ⟨by rw [← hv]; rfl,xG⟩
  have next : pathBad ((ll.getD 0 []).length) p i = 0 → ∀ j,j < i + 1 → 0 ≤ p.getD j 0 ∧ p.getD j 0 ≤ ((ll.getD 0 []).length : Int) - 1 := fun _ j hj => by
    by_cases hji : j = i
    · subst hji; exact hin
    · exact hbef j (by omega)
  by_cases hi0 : i = 0
  · have hb0 : pathBad ((ll.getD 0 []).length) p i = 0 := by unfold pathBad; rw [if_pos hin,if_pos (.inl hi0)]
    rw [hb0,if_pos rfl] at hv
    (repeat(first|refine yw ?_|((first|apply yd|apply ye);simp (disch:=first|exact zz|fail) only[go_sem,dec_f (show ¬ 0 < (i : Int) by omega)];with_reducible rfl)))
    refine cond_f rfl ?_
    (refine yg ?_)
    exact ⟨by omega,rfl,by simp [forget],hv,next hb0⟩
  · have hprev := hbef (i - 1) (by omega)
    have c1 : ((i : Int) - 1) = ((i - 1 : Nat) : Int) := by omega
    (repeat(first|refine yw ?_|((first|apply yd|apply ye);simp (disch:=first|exact zz|fail) only[go_sem,hpg.len,hpg.idx,hpg.load,dec_t (show 0 < (i : Int) by omega),c1];with_reducible rfl)))
    refine aops_call_to (isSized_c _ _ (by omega)) ?_
    (refine yg ?_)
    refine cond_n rfl (fun hout => ?_) (fun hin2 => ?_)
    · have hb9 : pathBad ((ll.getD 0 []).length) p i = 9 := by unfold pathBad; rw [if_pos hin,if_neg (by omega)]
      rw [hb9,if_neg (by decide)] at hv
      (refine yg ?_)
      exact fin_1 ⟨by rw [← hv]; rfl,xG⟩
    · have hb0 : pathBad ((ll.getD 0 []).length) p i = 0 := by unfold pathBad; rw [if_pos hin,if_pos (.inr (by omega))]
      rw [hb0,if_pos rfl] at hv
      (refine yg ?_)
      exact ⟨by omega,rfl,by simp [forget],hv,next hb0⟩
theorem refPathErr_c {ll : List (List Int)} {vs : List Value} {v vp : Value} {bend : Int} {p : List Int} (hL : Lists H ll vs v) (hp : Ints H p vp) (h0 : 0 < ll.length) (hb : ll.length ≤ 1000) (hw : (ll.getD 0 []).length ≤ 1000) :
    ACall Go.Proofs.Tryz.prog 13 [.agg ⟨[v,.int .i64 bend]⟩,vp] H fun v1 H1 => v1 = .int .i64 (pathErrL ll p) ∧ H1 = H := by
  refine ACall.drop (.int _ _) ?_
  (refine a13 ?_; simp only [n13,List.replicate,yq,yr,yt,yu]; first | refine q1 ?_ | refine q2 ?_ | refine q6 ?_ | refine q7 ?_ | refine qh rfl ?_ | skip)
  (repeat(first|refine yw ?_|((first|apply yd|apply ye);simp (disch:=first|exact zz|fail) only[go_sem,hL.box2];with_reducible rfl)))
  have g0 : (H ++ [AObj.cells true 0 [v,.int .i64 bend]])[H.length]? = some (.cells true 0 [v,.int .i64 bend]) := at_new
  have xG : Ext H (H ++ [AObj.cells true 0 [v,.int .i64 bend]]) := (Ext.refl H).app _
  have hLg := hL.ext xG
  have hpg := hp.ext xG
  generalize (H ++ [AObj.cells true 0 [v,.int .i64 bend]] : AHeap) = G at g0 xG hLg hpg
  (repeat(first|refine yw ?_|((first|apply yd|apply ye);simp (disch:=first|exact zz|fail) only[go_sem,hLg.len,hLg.idx,hLg.load,hpg.len,hpg.idx,hpg.load,load_at g0];with_reducible rfl)))
  refine cond_p rfl (fun hne => ?_) (fun heq => ?_)
  · (refine yg ?_)
    exact fin_1 ⟨by unfold pathErrL; rw [if_neg (by omega)]; rfl,xG⟩
  have he : p.length = ll.length := by omega
  have e0 : pathErrL ll p = pathGo ((ll.getD 0 []).length) p p.length 0 := by unfold pathErrL; rw [if_pos he]
  (repeat(first|refine yw ?_|((first|apply yd|apply ye);simp (disch:=first|exact zz|fail) only[go_sem,hpg.len,hpg.idx,hpg.load];with_reducible rfl)))
  refine awp_loop_n [false,true,true,false,false,true,false,false,false,false,false,false,false,false,false,false,false,false,false,false,false,false,false,false,false,false,false,false,false,false,false,false,false,false,false,false,false,false,false,false,false,false,false,false,false,false] p.length (fun i e H' => H' = G ∧ e = [junk,vp,.pointer (some ⟨H.length,0,none⟩),junk,junk,.int .i64 i,junk,junk,junk,junk,junk,junk,junk,junk,junk,junk,junk,junk,junk,junk,junk,junk,junk,junk,junk,junk,junk,junk,junk,junk,junk,junk,junk,junk,junk,junk,junk,junk,junk,junk,junk,junk,junk,junk,junk,junk] ∧ pathGo ((ll.getD 0 []).length) p (p.length - i) i = pathErrL ll p ∧
    ∀ j,j < i → 0 ≤ p.getD j 0 ∧ p.getD j 0 ≤ ((ll.getD 0 []).length : Int) - 1) ?_ ?_
  · exact ⟨rfl,by simp [forget],by rw [e0]; rfl,by omega⟩
  rintro i e H1 hi ⟨rfl,rfl,hv,hbef⟩
  (repeat(first|refine yw ?_|((first|apply yd|apply ye);simp (disch:=first|exact zz|fail) only[go_sem,hpg.len,hpg.idx,hpg.load];with_reducible rfl)))
  refine cond_p rfl (fun hlt => ?_) (fun hge => ?_)
  rotate_left 1
  · rw [show p.length - i = 0 by omega] at hv
    (refine yg ?_)
    exact fin_1 ⟨by rw [← hv]; rfl,xG⟩
  have hi' : i < p.length := by omega
  rw [show p.length - i = (p.length - (i + 1)) + 1 by omega,pathGo] at hv
  have hrow := hLg.row h0
  (repeat(first|refine yw ?_|((first|apply yd|apply ye);simp (disch:=first|exact zz|fail) only[go_sem,hpg.len,hpg.idx,hpg.load,hLg.len,hLg.idx,hLg.load,hrow.len,hrow.idx,hrow.load,load_at g0,show (0 : Int).toNat = 0 from rfl];with_reducible rfl)))
  refine adraw_call (N := []) (firstD (bwithin_c _ _ _)) ?_
  rw [List.append_nil]
  (refine yg ?_)
  refine cond_n rfl (fun hout => ?_) (fun hin => ?_)
  · have hb6 : pathBad ((ll.getD 0 []).length) p i = 6 := by unfold pathBad; rw [if_neg hout]
    rw [hb6,if_neg (by decide)] at hv
    (refine yg ?_)
    exact fin_1 ⟨by rw [← hv]; rfl,xG⟩
  have next : pathBad ((ll.getD 0 []).length) p i = 0 → ∀ j,j < i + 1 → 0 ≤ p.getD j 0 ∧ p.getD j 0 ≤ ((ll.getD 0 []).length : Int) - 1 := fun _ j hj => by
    by_cases hji : j = i
    · subst hji; exact hin
    · exact hbef j (by omega)
  by_cases hi0 : i = 0
  · have hb0 : pathBad ((ll.getD 0 []).length) p i = 0 := by unfold pathBad; rw [if_pos hin,if_pos (.inl hi0)]
    rw [hb0,if_pos rfl] at hv
    (repeat(first|refine yw ?_|((first|apply yd|apply ye);simp (disch:=first|exact zz|fail) only[go_sem,dec_f (show ¬ 0 < (i : Int) by omega)];with_reducible rfl)))
    refine cond_f rfl ?_
    (refine yg ?_)
    exact ⟨by omega,rfl,by simp [forget],hv,next hb0⟩
  · have hprev := hbef (i - 1) (by omega)
    have c1 : ((i : Int) - 1) = ((i - 1 : Nat) : Int) := by omega
    (repeat(first|refine yw ?_|((first|apply yd|apply ye);simp (disch:=first|exact zz|fail) only[go_sem,hpg.len,hpg.idx,hpg.load,dec_t (show 0 < (i : Int) by omega),c1];with_reducible rfl)))
    refine adraw_call (N := []) (firstD (bwithin_c _ _ _)) ?_
    rw [List.append_nil]
    (refine yg ?_)
    refine cond_n rfl (fun hout => ?_) (fun hin2 => ?_)
    · have hb9 : pathBad ((ll.getD 0 []).length) p i = 9 := by unfold pathBad; rw [if_pos hin,if_neg (by omega)]
      rw [hb9,if_neg (by decide)] at hv
      (refine yg ?_)
      exact fin_1 ⟨by rw [← hv]; rfl,xG⟩
    · have hb0 : pathBad ((ll.getD 0 []).length) p i = 0 := by unfold pathBad; rw [if_pos hin,if_pos (.inr (by omega))]
      rw [hb0,if_pos rfl] at hv
      (refine yg ?_)
      exact ⟨by omega,rfl,by simp [forget],hv,next hb0⟩
def openErrL (ll : List (List Int)) (bend : Int) (p : List Int) : Int := if taskErrL ll bend = 0 then pathErrL ll p else taskErrL ll bend
theorem taskErr_ok {ll : List (List Int)} {bend : Int} (h : taskErrL ll bend = 0) : gridErrL 40 12 ll = 0 ∧ 0 ≤ bend ∧ bend ≤ 1000 := by
  unfold taskErrL at h
  split at h
  · rename_i h1
    split at h
    · rename_i h2; exact ⟨h1,h2⟩
    · cases h
  · rename_i h1; exact absurd h h1
theorem openPath_c {ll : List (List Int)} {vs : List Value} {v vp : Value} {bend : Int} {p : List Int} (hL : Lists H ll vs v) (hp : Ints H p vp) (hb : ll.length ≤ 1000000000) (hr : ∀ i,i < ll.length → (ll.getD i []).length ≤ 1000000000) :
    ACall Go.Proofs.Tryz.prog 49 [.agg ⟨[v,.int .i64 bend]⟩,vp] H fun v1 H1 => v1 = .tuple #[.agg ⟨[v,.int .i64 bend]⟩,.int .i64 (openErrL ll bend p)] ∧ Ext H H1 := by
  (refine a49 ?_; simp only [n49,List.replicate,yq,yr,yt,yu]; first | refine q1 ?_ | refine q2 ?_ | refine q6 ?_ | refine q7 ?_ | refine qh rfl ?_ | skip)
  (repeat(first|refine yw ?_|((first|apply yd|apply ye);simp (disch:=first|exact zz|fail) only[go_sem,hL.box2];with_reducible rfl)))
  (simp only [List.length_append,List.length_cons,List.length_nil,Nat.zero_add,Nat.add_assoc,Nat.reduceAdd])
  obtain ⟨G,hG⟩ : ∃ G,G = H ++ [AObj.cells true 0 [v,.int .i64 bend]] ++ [AObj.cells true 0 [.slice none 0 0,.int .i64 0]] := ⟨_,rfl⟩
  have g0 : G[H.length]? = some (.cells true 0 [v,.int .i64 bend]) := by rw [hG]; exact at_app at_new
  have g1 : G[H.length + 1]? = some (.cells true 0 [.slice none 0 0,.int .i64 0]) := by rw [hG]; simp
  have xG : Ext H G := by rw [hG]; exact ((Ext.refl H).app _).app _
  rw [← hG]
  clear hG
  (repeat(first|refine yw ?_|((first|apply yd|apply ye);simp (disch:=first|exact zz|fail) only[go_sem,loadN_at g0];with_reducible rfl)))
  refine aops_call ((open_c (hL.ext xG) hb hr).mono fun v1 H1 ⟨e1,hx1⟩ => ?_)
  subst e1
  have hst := store_at2v (at_new (H := H1) (o := true) (e := 0) (vs := [.slice none 0 0,.int .i64 0])) hL.atom (isAtom_int .i64 bend)
  (repeat(first|refine yw ?_|((first|apply yd|apply ye);simp (disch:=first|exact zz|fail) only[go_sem,hst];with_reducible rfl)))
  obtain ⟨k,hk⟩ : ∃ k,k = H1.length := ⟨_,rfl⟩
  obtain ⟨G2,hG2⟩ : ∃ G2,G2 = (H1 ++ [AObj.cells true 0 [.slice none 0 0,.int .i64 0]]).set H1.length (.cells true 0 [v,.int .i64 bend]) := ⟨_,rfl⟩
  have gk : G2[k]? = some (.cells true 0 [v,.int .i64 bend]) := by rw [hG2,hk]; exact get_set_self at_new
  have x2 : Ext H1 G2 := by rw [hG2]; exact ((Ext.refl H1).app _).set (Nat.le_refl _) _
  have g12 := (hx1.trans x2).cell g1
  have xG2 := (xG.trans hx1).trans x2
  rw [← hG2,← hk]
  clear hG2
  refine cond_p rfl (fun hne => ?_) (fun heq => ?_)
  · have e2 : openErrL ll bend p = taskErrL ll bend := by unfold openErrL; rw [if_neg hne]
    (repeat(first|refine yw ?_|((first|apply yd|apply ye);simp (disch:=first|exact zz|fail) only[go_sem,loadN_at gk,store_at2v g12 hL.atom (isAtom_int .i64 bend)];with_reducible rfl)))
    refine fin_l2 (u := .agg ⟨[v,.int .i64 bend]⟩) ?_ ⟨by rw [e2]; rfl,?_⟩
    · exact loadN_at (k := 0) (get_set_self g12) (by simp)
    · exact xG2.set (by omega) _
  · have hok : taskErrL ll bend = 0 := Decidable.not_not.1 heq
    obtain ⟨hg,_⟩ := taskErr_ok hok
    obtain ⟨w1,w2,w3,w4,w5,w6⟩ := gridErr_ok hg
    have e2 : openErrL ll bend p = pathErrL ll p := by unfold openErrL; rw [if_pos hok]
    (repeat(first|refine yw ?_|((first|apply yd|apply ye);simp (disch:=first|exact zz|fail) only[go_sem,loadN_at gk];with_reducible rfl)))
    refine adraw_call (N := []) (firstD (pathErr_c (hL.ext xG2) (hp.ext xG2) w1 (by omega) (by omega))) ?_
    rw [List.append_nil]
    (repeat(first|refine yw ?_|((first|apply yd|apply ye);simp (disch:=first|exact zz|fail) only[go_sem,store_at2v g12 hL.atom (isAtom_int .i64 bend)];with_reducible rfl)))
    refine fin_l2 (u := .agg ⟨[v,.int .i64 bend]⟩) ?_ ⟨by rw [e2]; rfl,?_⟩
    · exact loadN_at (k := 0) (get_set_self g12) (by simp)
    · exact xG2.set (by omega) _
end
end Go.Lq

namespace Go.Lq
open Go
open Go.Proofs
def pixOf (ll : List (List Int)) (p : List Int) (i : Nat) : Int := (ll.getD i []).getD (p.getD i 0).toNat 0
def bendAt (bend : Int) (p : List Int) (i : Nat) : Int := if i = 0 then 0 else bendI bend (p.getD (i - 1) 0) (p.getD i 0)
def costTo (ll : List (List Int)) (bend : Int) (p : List Int) : Nat → Int
  | 0 => 0
  | n + 1 => costTo ll bend p n + pixOf ll p n + bendAt bend p n
theorem bendI_bound {bend a b : Int} (h : 0 ≤ bend ∧ bend ≤ 1000) : 0 ≤ bendI bend a b ∧ bendI bend a b ≤ 1000 := by unfold bendI; split <;> omega
theorem bendAt_bound {bend : Int} {p : List Int} {i : Nat} (h : 0 ≤ bend ∧ bend ≤ 1000) : 0 ≤ bendAt bend p i ∧ bendAt bend p i ≤ 1000 := by unfold bendAt; split; omega; exact bendI_bound h
theorem val_bound {ll : List (List Int)} (h : ∀ i,i < ll.length → ∀ n ∈ ll.getD i [],0 ≤ n ∧ n ≤ 255) (i c : Nat) : 0 ≤ (ll.getD i []).getD c 0 ∧ (ll.getD i []).getD c 0 ≤ 255 := by
  by_cases h1 : i < ll.length
  · by_cases h2 : c < (ll.getD i []).length
    · exact h _ h1 _ (getD_mem h2)
    · rw [getD_ge (by omega)]; omega
  · rw [getD_ge (l := ll) (by omega)]; simp
def crackStep (ll : List (List Int)) (p : List Int) (limit : Int) (out : List (Int × Int)) (i : Nat) : List (Int × Int) :=
  if pixOf ll p i ≤ limit then out
  else if 0 < out.length ∧ (out.getD (out.length - 1) (0,0)).2 = (i : Int) - 1 then out.set (out.length - 1) ((out.getD (out.length - 1) (0,0)).1,(i : Int))
  else out ++ [((i : Int),(i : Int))]
def cracksTo (ll : List (List Int)) (p : List Int) (limit : Int) : Nat → List (Int × Int)
  | 0 => []
  | n + 1 => crackStep ll p limit (cracksTo ll p limit n) n
theorem cracksTo_len (ll : List (List Int)) (p : List Int) (limit : Int) : ∀ n,(cracksTo ll p limit n).length ≤ n
  | 0 => by simp [cracksTo]
  | n + 1 => by
    have := cracksTo_len ll p limit n
    simp only [cracksTo,crackStep]
    split
    · omega
    · split
      · simp; omega
      · simp; omega
/-! ### The second of a pair written -/
def setPH (H : AHeap) (v : Value) (l : List (Int × Int)) : AHeap := match v with | .slice (some a) _ _ => H.set a.block (.cells true 2 (flatP l)) | _ => H
theorem flatP_set2 : ∀ (l : List (Int × Int)) (k : Nat) (x : Int),k < l.length → (flatP l).set (k * 2 + 1) (.int .i64 x) = flatP (l.set k ((l.getD k (0,0)).1,x))
  | [],k,x,h => by simp at h
  | p :: l,0,x,_ => by simp [flatP]
  | p :: l,k + 1,x,h => by
    have := flatP_set2 l k x (by simpa using h)
    rw [Nat.add_mul,Nat.one_mul]
    simpa [flatP] using this
theorem OwnP.set2 {H0 H : AHeap} {l : List (Int × Int)} {v : Value} (h : OwnP H0 H l v) (hx : Ext H0 H) {k : Nat} (hk : k < l.length) (x : Int) :
    storeR 1 (addrOf v (k * 2 + 1)) (.int .i64 x) H = some (undef,setPH H v (l.set k ((l.getD k (0,0)).1,x))) ∧ OwnP H0 (setPH H v (l.set k ((l.getD k (0,0)).1,x))) (l.set k ((l.getD k (0,0)).1,x)) v ∧ Ext H0 (setPH H v (l.set k ((l.getD k (0,0)).1,x))) := by
  obtain ⟨hl,h⟩ := h
  rcases h with ⟨rfl,h0⟩ | ⟨id,rfl,h1,h2,ho⟩
  · omega
  · have hst := store_cell (v := .int .i64 x) (n := l.length) (c := l.length) (i := k * 2 + 1) ho (by rw [hl]; omega) rfl rfl
    rw [flatP_set2 l k x hk] at hst
    exact ⟨hst,⟨by simp [flatP_len],.inr ⟨id,by simp,h1,by simpa using h2,get_set_self ho⟩⟩,hx.set h1 _⟩
section
variable {H : AHeap}
end
end Go.Lq

namespace Go.Lq
open Go
open Go.Proofs
def nbL (w c : Nat) : List Nat := (List.range (min (c + 1) (w - 1) + 1 - (c - 1))).map fun i => c - 1 + i
def nbV (l : List Nat) : List (List Value) := l.map fun d : Nat => [Value.int .i64 (d : Int)]
theorem nbL_len (w c : Nat) : (nbL w c).length = min (c + 1) (w - 1) + 1 - (c - 1) := by simp [nbL]
theorem nbL_getD {w c i : Nat} (h : i < (nbL w c).length) : (nbL w c).getD i 0 = c - 1 + i := by
  rw [nbL_len] at h
  unfold nbL
  rw [getD_map_range h]
theorem nbL_drop {w c i : Nat} (h : i < (nbL w c).length) : (nbL w c).drop i = (c - 1 + i) :: (nbL w c).drop (i + 1) := by
  rw [drop_getD (d := 0) h,nbL_getD h]
theorem nbL_mem {w c d : Nat} (hw : c < w) : d ∈ nbL w c ↔ d < w ∧ d ≤ c + 1 ∧ c ≤ d + 1 := by
  simp only [nbL,List.mem_map,List.mem_range]
  constructor
  · rintro ⟨i,hi,rfl⟩; omega
  · rintro ⟨h1,h2,h3⟩; exact ⟨d - (c - 1),by omega,by omega⟩
section
variable {H : AHeap}
def NbFact (idc idt c : Nat) (ll : List (List Int)) (vs : List Value) (v : Value) (bend : Int) (H : AHeap) : Prop :=
  H[idc]? = some (.cells true 0 [.int .i64 c]) ∧ H[idt]? = some (.cells true 0 [v,.int .i64 bend]) ∧ Lists H ll vs v
theorem nb1_c {idc idt c : Nat} {ll : List (List Int)} {vs : List Value} {v : Value} {bend : Int} (h0 : 0 < ll.length) (hw : (ll.getD 0 []).length ≤ 1000) (hc : c < (ll.getD 0 []).length) :
    GenA Go.Proofs.Tryz.prog 85 [] [.pointer (some ⟨idc,0,none⟩),.pointer (some ⟨idt,0,none⟩)] (NbFact idc idt c ll vs v bend) (nbV (nbL (ll.getD 0 []).length c)) := by
  intro l I S H hF hround hI0
  show ACall _ _ [.func (.yield l) #[] #[],.pointer (some ⟨idc,0,none⟩),.pointer (some ⟨idt,0,none⟩)] _ _
  obtain ⟨f1,f2,f3⟩ := hF _ _ hI0
  obtain ⟨w,hwd⟩ : ∃ w,w = (ll.getD 0 []).length := ⟨_,rfl⟩
  rw [← hwd] at hw hc hI0
  have c0 : max 0 ((c : Int) - 1) = ((c - 1 : Nat) : Int) := by omega
  have hlen := nbL_len w c
  (refine a85 ?_; simp only [n85,List.replicate,yq,yr,yt,yu]; first | refine q1 ?_ | refine q2 ?_ | refine q6 ?_ | refine q7 ?_ | refine qh rfl ?_ | skip)
  (repeat(first|refine yw ?_|((first|apply yd|apply ye);simp (disch:=first|exact zz|fail) only[go_sem,load_at f1,c0];with_reducible rfl)))
  refine awp_loop_n [true,true,true,false,true,false,false,false,false,false,false,false,false,false,false,false,false,false,false,false,false,false] (nbL w c).length (fun i e H' => e = [.func (.yield l) #[] #[],.pointer (some ⟨idc,0,none⟩),.pointer (some ⟨idt,0,none⟩),junk,.int .i64 ((c - 1 + i : Nat) : Int),junk,junk,junk,junk,junk,junk,junk,junk,junk,junk,junk,junk,junk,junk,junk,junk,junk] ∧ I (nbV ((nbL w c).drop i)) H') ?_ ?_
  · exact ⟨by simp [forget],hI0⟩
  rintro i e H1 hi ⟨rfl,hI⟩
  obtain ⟨f1',f2',f3'⟩ := hF _ _ hI
  (repeat(first|refine yw ?_|((first|apply yd|apply ye);simp (disch:=first|exact zz|fail) only[go_sem,load_at f1',loadN_at f2'];with_reducible rfl)))
  refine adraw_call (N := []) (firstD (columns_c f3' h0)) ?_
  rw [List.append_nil,← hwd]
  (refine yg ?_)
  refine cond_p rfl (fun hle => ?_) (fun hgt => ?_)
  rotate_left 1
  · obtain rfl : i = (nbL w c).length := by omega
    rw [drop_end (Nat.le_refl _)] at hI
    (refine yg ?_)
    exact ⟨.inl rfl,undef,rfl,.inl hI⟩
  have hi' : i < (nbL w c).length := by omega
  rw [nbL_drop hi'] at hI
  (refine yg ?_)
  refine aops_call ((hround _ _ _ hI).mono fun v1 H3 h => ?_)
  rcases h with ⟨rfl,hI3⟩ | ⟨rfl,hS⟩
  · (refine yg ?_)
    refine cond_f rfl ?_
    (refine yg ?_)
    exact ⟨by omega,by simp [forget]; omega,hI3⟩
  · (refine yg ?_)
    refine cond_t rfl ?_
    (refine yg ?_)
    exact ⟨.inr rfl,undef,rfl,.inr hS⟩
theorem neighbors_c {ll : List (List Int)} {vs : List Value} {v : Value} {bend c : Int} (hL : Lists H ll vs v) :
    ACall Go.Proofs.Tryz.prog 67 [.agg ⟨[v,.int .i64 bend]⟩,.int .i64 c] H fun v1 H' =>
      v1 = .func (.func 85) #[] #[.pointer (some ⟨H.length + 1,0,none⟩),.pointer (some ⟨H.length,0,none⟩)] ∧ H' = H ++ [.cells true 0 [v,.int .i64 bend]] ++ [.cells true 0 [.int .i64 c]] := by
  (refine a67 ?_; simp only [n67,List.replicate,yq,yr,yt,yu]; first | refine q1 ?_ | refine q2 ?_ | refine q6 ?_ | refine q7 ?_ | refine qh rfl ?_ | skip)
  (repeat(first|refine yw ?_|((first|apply yd|apply ye);simp (disch:=first|exact zz|fail) only[go_sem,hL.box2];with_reducible rfl)))
  refine fin_1 ⟨?_,rfl⟩
  simp [go_sem]
def ceilGo (bend : Int) (bef : List Int) (c : Nat) : Int → List Nat → Int
  | m,[] => m
  | m,d :: t => ceilGo bend bef c (min m (bef.getD d 0 + bendI bend d c)) t
def ceilL (ll : List (List Int)) (bend : Int) (bef : List Int) (row c : Nat) : Int := (ll.getD row []).getD c 0 + ceilGo bend bef c 1000000 (nbL (ll.getD 0 []).length c)
theorem ceiling_c {ll : List (List Int)} {vs : List Value} {v vb : Value} {bend : Int} {bef : List Int} {row c : Nat} (hL : Lists H ll vs v) (hB : Ints H bef vb) (hg : gridErrL 40 12 ll = 0) (hb : 0 ≤ bend ∧ bend ≤ 1000)
    (hbl : bef.length = (ll.getD 0 []).length) (hbv : ∀ d : Nat,-1000000 ≤ bef.getD d 0 ∧ bef.getD d 0 ≤ 1000000) (hrow : row < ll.length) (hc : c < (ll.getD 0 []).length) :
    ACall Go.Proofs.Tryz.prog 45 [.agg ⟨[v,.int .i64 bend]⟩,.int .i64 row,.int .i64 c,vb] H fun v1 H' => v1 = .int .i64 (ceilL ll bend bef row c) ∧ H' = H := by
  refine ACall.drop (.int _ _) ?_
  obtain ⟨w1,w2,w3,w4,w5,w6⟩ := gridErr_ok hg
  obtain ⟨w,hwd⟩ : ∃ w,w = (ll.getD 0 []).length := ⟨_,rfl⟩
  obtain ⟨ba,bn,bc,rfl⟩ : ∃ a n c,vb = .slice a n c := by
    rcases hB.2 with ⟨rfl,_⟩ | ⟨id,off,c,rfl,_⟩ <;> exact ⟨_,_,_,rfl⟩
  have hbx : ∀ {H' : AHeap},boxR (.slice ba bn bc) H' = some (.pointer (some ⟨H'.length,0,none⟩),H' ++ [.cells true 0 [.slice ba bn bc]]) := rfl
  (refine a45 ?_; simp only [n45,List.replicate,yq,yr,yt,yu]; first | refine q1 ?_ | refine q2 ?_ | refine q6 ?_ | refine q7 ?_ | refine qh rfl ?_ | skip)
  (repeat(first|refine yw ?_|((first|apply yd|apply ye);simp (disch:=first|exact zz|fail) only[go_sem,hL.box2,hbx];with_reducible rfl)))
  (simp only [List.length_append,List.length_cons,List.length_nil,Nat.zero_add,Nat.add_assoc,Nat.reduceAdd])
  obtain ⟨G,hG⟩ : ∃ G,G = H ++ [AObj.cells true 0 [v,.int .i64 bend]] ++ [AObj.cells true 0 [.int .i64 c]] ++ [AObj.cells true 0 [.slice ba bn bc]] ++ [AObj.cells true 0 [.int .i64 1000000]] := ⟨_,rfl⟩
  have g0 : G[H.length]? = some (.cells true 0 [v,.int .i64 bend]) := by rw [hG]; exact at_app (at_app (at_app at_new))
  have g1 : G[H.length + 1]? = some (.cells true 0 [.int .i64 c]) := by rw [hG]; refine at_app (at_app ?_); simp
  have g2 : G[H.length + 2]? = some (.cells true 0 [.slice ba bn bc]) := by rw [hG]; refine at_app ?_; simp
  have g3 : G[H.length + 3]? = some (.cells true 0 [.int .i64 1000000]) := by rw [hG]; simp
  have xG : Ext H G := by rw [hG]; exact ((((Ext.refl H).app _).app _).app _).app _
  have lG : G.length = H.length + 4 := by rw [hG]; simp
  rw [← hG]
  clear hG
  (repeat(first|refine yw ?_|((first|apply yd|apply ye);simp (disch:=first|exact zz|fail) only[go_sem,loadN_at g0,load_at g1];with_reducible rfl)))
  refine aops_call ((neighbors_c (hL.ext xG)).mono fun v1 G1 ⟨e1,e2⟩ => ?_)
  subst e1
  have k0 : G1[H.length]? = some (.cells true 0 [v,.int .i64 bend]) := by rw [e2]; exact at_app (at_app g0)
  have k1 : G1[H.length + 1]? = some (.cells true 0 [.int .i64 c]) := by rw [e2]; exact at_app (at_app g1)
  have k2 : G1[H.length + 2]? = some (.cells true 0 [.slice ba bn bc]) := by rw [e2]; exact at_app (at_app g2)
  have k3 : G1[H.length + 3]? = some (.cells true 0 [.int .i64 1000000]) := by rw [e2]; exact at_app (at_app g3)
  have k4 : G1[G.length]? = some (.cells true 0 [v,.int .i64 bend]) := by rw [e2]; exact at_app at_new
  have k5 : G1[G.length + 1]? = some (.cells true 0 [.int .i64 c]) := by rw [e2]; simp
  have x1 : Ext H G1 := by rw [e2]; exact (xG.app _).app _
  have l1 : G1.length = H.length + 6 := by rw [e2]; simp [lG]
  have hself : G1.set (H.length + 3) (.cells true 0 [.int .i64 1000000]) = G1 := set_self k3
  clear e2
  have low : ∀ {m : Int} {H' : AHeap} {i : Nat} {c : AObj},Ext (G1.set (H.length + 3) (.cells true 0 [.int .i64 m])) H' → i ≠ H.length + 3 → G1[i]? = some c → H'[i]? = some c := fun hx hi hc => hx.cell (by rw [List.getElem?_set_ne (Ne.symm hi)]; exact hc)
  have xlow : ∀ {m : Int} {H' : AHeap},Ext (G1.set (H.length + 3) (.cells true 0 [.int .i64 m])) H' → Ext H H' := fun hx => (x1.set (by omega) _).trans hx
  refine yx ?_
  refine awp_rangeA mo rfl (fun l h => by cases h) (nb1_c (idc := G.length + 1) (idt := G.length) (c := c) (ll := ll) (vs := vs) (v := v) (bend := bend) w1 (by omega) hc)
    (fun rest H' => ∃ m tl,rest = nbV tl ∧ Ext (G1.set (H.length + 3) (.cells true 0 [.int .i64 m])) H' ∧ ceilGo bend bef c m tl = ceilGo bend bef c 1000000 (nbL (ll.getD 0 []).length c) ∧ (-2000000 ≤ m ∧ m ≤ 1000000) ∧ ∀ d ∈ tl,d < (ll.getD 0 []).length)
    (fun _ _ => False) ?_ (fun _ _ _ h => h.elim) ?_ ?_ ?_ ?_ (fun _ _ _ h => h.elim)
  · rintro rest H' c' ⟨m,tl,h1,h2,h3⟩
    exact ⟨m,tl,h1,h2.set (by simp) _,h3⟩
  · rintro rest H' ⟨m,tl,h1,h2,h3⟩
    exact ⟨low h2 (by omega) k5,low h2 (by omega) k4,hL.ext (xlow h2)⟩
  · intro N
    refine ⟨1000000,nbL (ll.getD 0 []).length c,rfl,?_,rfl,by omega,fun d hd => ((nbL_mem hc).1 hd).1⟩
    rw [hself]; exact (Ext.refl _).app _
  · rintro a rest H1 ⟨m,tl,h1,h2,h3,h4,h5⟩ hlt
    match tl,h1 with
    | d :: tl,h1 =>
    obtain ⟨rfl,rfl⟩ := List.cons.inj h1
    refine ⟨rfl,fun R Rb _ hR => ?_⟩
    simp only [assignParams,List.zip_cons_cons,List.zip_nil_left,List.foldl_cons,List.foldl_nil]
    (refine yg ?_)
    refine ⟨rfl,hR,?_⟩
    have hRb := get_set_self (d := Rb) hR
    have h2' : Ext (G1.set (H.length + 3) (.cells true 0 [.int .i64 m])) (H1.set G1.length Rb) := h2.set (by simp) _
    generalize (H1.set G1.length Rb : AHeap) = Hb at h2' hRb
    have b0 := low h2' (by omega) k0
    have b1 := low h2' (by omega) k1
    have b2 := low h2' (by omega) k2
    have b3 : Hb[H.length + 3]? = some (.cells true 0 [.int .i64 m]) := h2'.cell (List.getElem?_set_self (by omega))
    have hBb := hB.ext (xlow h2')
    have hLb := hL.ext (xlow h2')
    have hd := h5 d (by simp)
    have hdb := hbv d
    have bb := bendI_bound (a := (d : Int)) (b := (c : Int)) hb
    (repeat(first|refine yw ?_|((first|apply yd|apply ye);simp (disch:=first|exact zz|fail) only[go_sem,hBb.len,hBb.idx,hBb.load,load_at b0,load_at b1,load_at b2,load_at b3,loadN_at b0];with_reducible rfl)))
    refine adraw_call (N := []) (firstD (bend_c hLb)) ?_
    rw [List.append_nil]
    (repeat(first|refine yw ?_|((first|apply yd|apply ye);simp (disch:=first|exact zz|fail) only[go_sem,store_at1 (y := .int .i64 (min m (bef.getD d 0 + bendI bend d c))) b3 rfl rfl];with_reducible rfl)))
    refine rounded_n ?_ ⟨min m (bef.getD d 0 + bendI bend d c),tl,rfl,?_,h3,by omega,fun d hd => h5 d (by simp [hd])⟩
    · rw [List.getElem?_set_ne (by omega)]; exact hRb
    · have := h2'.set_both (k := H.length + 3) (by simp; omega) (.cells true 0 [.int .i64 (min m (bef.getD d 0 + bendI bend d c))])
      rwa [List.set_set] at this
  · rintro H' ⟨m,tl,h1,h2,h3,h4,h5⟩
    have : tl = [] := List.map_eq_nil_iff.1 h1.symm
    subst this
    have hLe := hL.ext (xlow h2)
    have hre := hLe.row hrow
    have hwr := w5 row hrow
    have b0 := low h2 (by omega) k0
    have b1 := low h2 (by omega) k1
    have b3 : H'[H.length + 3]? = some (.cells true 0 [.int .i64 m]) := h2.cell (List.getElem?_set_self (by omega))
    have vb := val_bound w6 row c
    (repeat(first|refine yw ?_|((first|apply yd|apply ye);simp (disch:=first|exact zz|fail) only[go_sem,hLe.len,hLe.idx,hLe.load,hre.len,hre.idx,hre.load,load_at b0,load_at b1,load_at b3];with_reducible rfl)))
    refine fin_1 ⟨?_,xlow h2⟩
    unfold ceilL
    rw [← h3]; rfl
end
end Go.Lq

namespace Go.Lq
open Go
open Go.Proofs
def vAt (ll : List (List Int)) (r c : Nat) : Int := (ll.getD r []).getD c 0
def minGo (f : Nat → Int) : Int → List Nat → Int
  | m,[] => m
  | m,d :: t => minGo f (min m (f d)) t
def restK (ll : List (List Int)) (bend : Int) (isL : Nat → Bool) : Nat → Nat → Int
  | 0,c => if isL c then vAt ll (ll.length - 1) c else 1000000
  | k + 1,c => minGo (fun d => vAt ll (ll.length - 2 - k) c + bendI bend (c : Int) (d : Int) + restK ll bend isL k d) 1000000 (nbL (ll.getD 0 []).length c)
def nextK (ll : List (List Int)) (bend : Int) (isL : Nat → Bool) (k c : Nat) : Nat :=
  ((nbL (ll.getD 0 []).length c).find? fun d : Nat => decide (vAt ll (ll.length - 2 - k) c + bendI bend (c : Int) (d : Int) + restK ll bend isL k d = restK ll bend isL (k + 1) c)).getD c
def followL (ll : List (List Int)) (bend : Int) (isL : Nat → Bool) : Nat → Nat → List Int
  | 0,c => [(c : Int)]
  | k + 1,c => (c : Int) :: followL ll bend isL k (nextK ll bend isL k c)
theorem followL_len (ll : List (List Int)) (bend : Int) (isL : Nat → Bool) : ∀ k c,(followL ll bend isL k c).length = k + 1
  | 0,c => rfl
  | k + 1,c => by simp [followL,followL_len ll bend isL k]
def refGo (c : Nat) (vf : Nat → Int) (R : Nat → List Int × Int) : List Int × Int → List Nat → List Int × Int
  | acc,[] => acc
  | acc,d :: t => refGo c vf R (if 0 ≤ (R d).2 ∧ (acc.2 < 0 ∨ vf d + (R d).2 < acc.2) then ((c : Int) :: (R d).1,vf d + (R d).2) else acc) t
def refK (ll : List (List Int)) (bend : Int) (isL : Nat → Bool) : Nat → Nat → List Int × Int
  | 0,c => if isL c then ([(c : Int)],vAt ll (ll.length - 1) c) else ([],-1)
  | k + 1,c => refGo c (fun d => vAt ll (ll.length - 2 - k) c + bendI bend (c : Int) (d : Int)) (refK ll bend isL k) ([],-1) (nbL (ll.getD 0 []).length c)
theorem minGo_append (f : Nat → Int) : ∀ (l : List Nat) (m : Int) (d : Nat),minGo f m (l ++ [d]) = min (minGo f m l) (f d)
  | [],m,d => rfl
  | a :: l,m,d => by simp only [List.cons_append,minGo]; exact minGo_append f l _ d
theorem minGo_spec (f : Nat → Int) : ∀ (l : List Nat) (m : Int),minGo f m l ≤ m ∧ (∀ d ∈ l,minGo f m l ≤ f d) ∧ (minGo f m l = m ∨ ∃ d ∈ l,f d = minGo f m l)
  | [],m => ⟨Int.le_refl _,by simp,.inl rfl⟩
  | a :: l,m => by
    obtain ⟨h1,h2,h3⟩ := minGo_spec f l (min m (f a))
    simp only [minGo]
    refine ⟨by omega,fun d hd => ?_,?_⟩
    · rcases List.mem_cons.1 hd with rfl | hd
      · omega
      · exact h2 d hd
    · rcases h3 with h3 | ⟨d,hd,h3⟩
      · by_cases hm : m ≤ f a
        · left; omega
        · right; exact ⟨a,by simp,by omega⟩
      · right; exact ⟨d,by simp [hd],h3⟩
section
variable {ll : List (List Int)} {bend : Int} {isL : Nat → Bool}
theorem restK_bound (hv : ∀ i,i < ll.length → ∀ n ∈ ll.getD i [],0 ≤ n ∧ n ≤ 255) (hb : 0 ≤ bend ∧ bend ≤ 1000) : ∀ k c,0 ≤ restK ll bend isL k c ∧ restK ll bend isL k c ≤ 1000000 ∧ (restK ll bend isL k c < 1000000 → restK ll bend isL k c ≤ 1255 * (k + 1))
  | 0,c => by
    have := val_bound hv (ll.length - 1) c
    unfold restK vAt
    split
    · omega
    · omega
  | k + 1,c => by
    have h0 := minGo_spec (fun d => vAt ll (ll.length - 2 - k) c + bendI bend (c : Int) (d : Int) + restK ll bend isL k d) (nbL (ll.getD 0 []).length c) 1000000
    have hvb := val_bound hv (ll.length - 2 - k) c
    have e : restK ll bend isL (k + 1) c = minGo (fun d => vAt ll (ll.length - 2 - k) c + bendI bend (c : Int) (d : Int) + restK ll bend isL k d) 1000000 (nbL (ll.getD 0 []).length c) := rfl
    rw [← e] at h0
    obtain ⟨h1,h2,h3⟩ := h0
    rcases h3 with h3 | ⟨d,_,h3⟩
    · rw [h3]; omega
    · have hr := restK_bound hv hb k d
      have hbb := bendI_bound (a := (c : Int)) (b := (d : Int)) hb
      simp only [vAt] at h3 hvb
      push_cast
      omega
theorem refGo_rest {f : Nat → Int} {R : Nat → List Int × Int} {F : Nat → List Int} {r : Nat → Int} {c : Nat} (hf : ∀ d,0 ≤ f d) (hR : ∀ d,R d = if r d < 1000000 then (F d,r d) else ([],-1)) (hr0 : ∀ d,0 ≤ r d) (hr : ∀ d,r d < 1000000 → f d + r d < 1000000) :
    ∀ (l pre : List Nat) (acc : List Int × Int),(acc = if minGo (fun d => f d + r d) 1000000 pre < 1000000 then ((c : Int) :: F ((pre.find? fun d : Nat => decide (f d + r d = minGo (fun d => f d + r d) 1000000 pre)).getD c),minGo (fun d => f d + r d) 1000000 pre) else ([],-1)) →
      refGo c f R acc l = if minGo (fun d => f d + r d) 1000000 (pre ++ l) < 1000000 then ((c : Int) :: F (((pre ++ l).find? fun d : Nat => decide (f d + r d = minGo (fun d => f d + r d) 1000000 (pre ++ l))).getD c),minGo (fun d => f d + r d) 1000000 (pre ++ l)) else ([],-1)
  | [],pre,acc,h => by rw [List.append_nil]; exact h
  | d :: l,pre,acc,h => by
    rw [show pre ++ d :: l = (pre ++ [d]) ++ l by simp]
    refine refGo_rest hf hR hr0 hr l (pre ++ [d]) (if 0 ≤ (R d).2 ∧ (acc.2 < 0 ∨ f d + (R d).2 < acc.2) then ((c : Int) :: (R d).1,f d + (R d).2) else acc) ?_
    obtain ⟨h1,h2,h3⟩ := minGo_spec (fun d => f d + r d) pre 1000000
    have hap := minGo_append (fun d => f d + r d) pre 1000000 d
    obtain ⟨m,hm⟩ : ∃ m,m = minGo (fun d => f d + r d) 1000000 pre := ⟨_,rfl⟩
    rw [← hm] at h h1 h2 h3 hap
    rw [hap]
    have hfd := hf d
    have hrd := hr0 d
    have none_lt : ∀ x : Int,x < m → pre.find? (fun d => decide (f d + r d = x)) = none := fun x hx => by
      rw [List.find?_eq_none]
      intro a ha
      have := h2 a ha
      simp only [decide_eq_true_iff]
      omega
    by_cases hd : r d < 1000000
    · have hlt := hr d hd
      rw [hR d,if_pos hd]
      simp only
      by_cases hm1 : m < 1000000
      · rw [if_pos hm1] at h
        have hm0 : 0 ≤ m := by
          rcases h3 with h3 | ⟨a,_,h3⟩
          · omega
          · have := hf a; have := hr0 a; omega
        by_cases hup : f d + r d < m
        · rw [if_pos ⟨hrd,.inr (by rw [h]; exact hup)⟩,Int.min_eq_right (show f d + r d ≤ m by omega),if_pos hlt,List.find?_append,none_lt _ hup]
          simp
        · rw [if_neg (fun hc => by rw [h] at hc; simp only at hc; omega),Int.min_eq_left (show m ≤ f d + r d by omega),if_pos hm1,h]
          obtain ⟨a,ha,hfa⟩ : ∃ a ∈ pre,f a + r a = m := by
            rcases h3 with h3 | h3
            · omega
            · exact h3
          have hsome : (pre.find? fun d : Nat => decide (f d + r d = m)).isSome = true := by
            rw [List.find?_isSome]; exact ⟨a,ha,by simpa using hfa⟩
          obtain ⟨x,hx⟩ := Option.isSome_iff_exists.1 hsome
          rw [List.find?_append,hx]
          rfl
      · rw [if_neg hm1] at h
        rw [if_pos ⟨hrd,.inl (by rw [h]; decide)⟩,Int.min_eq_right (show f d + r d ≤ m by omega),if_pos hlt,List.find?_append,none_lt _ (by omega)]
        simp
    · rw [hR d,if_neg hd,if_neg (fun hc => absurd hc.1 (by decide))]
      have hge : 1000000 ≤ f d + r d := by omega
      rw [Int.min_eq_left (show m ≤ f d + r d by omega)]
      by_cases hm1 : m < 1000000
      · rw [if_pos hm1] at h ⊢
        obtain ⟨a,ha,hfa⟩ : ∃ a ∈ pre,f a + r a = m := by
          rcases h3 with h3 | h3
          · omega
          · exact h3
        have hsome : (pre.find? fun d : Nat => decide (f d + r d = m)).isSome = true := by
          rw [List.find?_isSome]; exact ⟨a,ha,by simpa using hfa⟩
        obtain ⟨x,hx⟩ := Option.isSome_iff_exists.1 hsome
        rw [h,List.find?_append,hx]
        rfl
      · rw [if_neg hm1] at h ⊢
        exact h
theorem refK_eq (hv : ∀ i,i < ll.length → ∀ n ∈ ll.getD i [],0 ≤ n ∧ n ≤ 255) (hb : 0 ≤ bend ∧ bend ≤ 1000) : ∀ k c,k < 100 → refK ll bend isL k c = if restK ll bend isL k c < 1000000 then (followL ll bend isL k c,restK ll bend isL k c) else ([],-1)
  | 0,c,_ => by
    have := val_bound hv (ll.length - 1) c
    unfold refK restK
    cases isL c with
    | true =>
      simp only [if_true]
      rw [if_pos (by unfold vAt; omega)]; rfl
    | false => simp
  | k + 1,c,hk => by
    have hbd := restK_bound (isL := isL) hv hb k
    have hvb := val_bound hv (ll.length - 2 - k) c
    have := refGo_rest (c := c) (f := fun d => vAt ll (ll.length - 2 - k) c + bendI bend (c : Int) (d : Int)) (R := refK ll bend isL k) (F := followL ll bend isL k) (r := restK ll bend isL k)
      (fun d => by have := bendI_bound (a := (c : Int)) (b := (d : Int)) hb; simp only [vAt]; omega) (fun d => refK_eq hv hb k d (by omega)) (fun d => (hbd d).1)
      (fun d hd => by have := (hbd d).2.2 hd; have := bendI_bound (a := (c : Int)) (b := (d : Int)) hb; simp only [vAt]; omega) (nbL (ll.getD 0 []).length c) [] ([],-1) (by simp [minGo])
    rw [List.nil_append] at this
    refine Eq.trans ?_ (this.trans ?_)
    · rfl
    · rw [show restK ll bend isL (k + 1) c = minGo (fun d => vAt ll (ll.length - 2 - k) c + bendI bend (c : Int) (d : Int) + restK ll bend isL k d) 1000000 (nbL (ll.getD 0 []).length c) from rfl]
      rfl
end
end Go.Lq

namespace Go.Lq
open Go
open Go.Proofs
theorem awp_runR {n : Nat} {c : RCode} {ar : Option Nat} {e : Env} {H H' : AHeap} {x : AExit} {a b : Nat} {va vb : Value} {Q : AExit → Env → AHeap → Prop}
    (h : (run TA colO n (.code c ar e) H).map (fun r => (r.1,r.2.1.getD a undef,r.2.1.getD b undef,r.2.2.1)) = some (x,va,vb,H')) (k : ∀ e',e'.getD a undef = va → e'.getD b undef = vb → Q x e' H') : AWP Go.Proofs.Tryz.prog ar c Q e H := by
  cases hr : run TA colO n (.code c ar e) H with
  | none => rw [hr] at h; cases h
  | some r =>
    obtain ⟨x',e',H'',lo⟩ := r
    rw [hr] at h
    simp only [Option.map_some,Option.some.injEq,Prod.mk.injEq] at h
    obtain ⟨rfl,h1,h2,rfl⟩ := h
    exact awp_run hr (k e' h1 h2)
section
variable {H : AHeap}
theorem closed_uu (a b : Int) : Closed (.tuple #[.int .u64 a,.int .u64 b]) := .tuple _ (closed_list (l := [.int .u64 a,.int .u64 b]) fun v hv => by
  simp only [List.mem_cons,List.not_mem_nil,or_false] at hv
  rcases hv with rfl | rfl <;> exact .int _ _)
theorem mul_of {n : Int} (hx : Big H) (h : (run TA colO 200 (.code R84.code none ([.int .u64 1,.int .u64 n] ++ List.replicate (R84.ntmps - [Value.int .u64 1,Value.int .u64 n].length) undef)) H0).map (fun r => (r.1,r.2.1.getD 4 undef,r.2.1.getD 5 undef,r.2.2.1)) = some (.ret,.int .u64 0,.int .u64 n,H0)) :
    ACall Go.Proofs.Tryz.prog 84 [.int .u64 1,.int .u64 n] H fun v H' => v = .tuple #[.int .u64 0,.int .u64 n] ∧ H' = H := by
  refine dead_call hx (fun x hx => ?_) (closed_uu _ _) ?_
  · simp only [List.mem_cons,List.not_mem_nil,or_false] at hx
    rcases hx with rfl | rfl <;> exact .int _ _
  refine a84 ?_
  refine awp_runR h fun e' h1 h2 => ?_
  refine fin_2 (a := 4) (b := 5) ⟨?_,rfl⟩
  rw [h1,h2]
theorem mul_c {n : Nat} (hx : Big H) (h0 : 1 ≤ n) (h12 : n ≤ 12) : ACall Go.Proofs.Tryz.prog 84 [.int .u64 1,.int .u64 (n : Int)] H fun v H' => v = .tuple #[.int .u64 0,.int .u64 (n : Int)] ∧ H' = H := by
  match n,h0,h12 with
  | 1,_,_ => exact mul_of hx (by kernel_rfl)
  | 2,_,_ => exact mul_of hx (by kernel_rfl)
  | 3,_,_ => exact mul_of hx (by kernel_rfl)
  | 4,_,_ => exact mul_of hx (by kernel_rfl)
  | 5,_,_ => exact mul_of hx (by kernel_rfl)
  | 6,_,_ => exact mul_of hx (by kernel_rfl)
  | 7,_,_ => exact mul_of hx (by kernel_rfl)
  | 8,_,_ => exact mul_of hx (by kernel_rfl)
  | 9,_,_ => exact mul_of hx (by kernel_rfl)
  | 10,_,_ => exact mul_of hx (by kernel_rfl)
  | 11,_,_ => exact mul_of hx (by kernel_rfl)
  | 12,_,_ => exact mul_of hx (by kernel_rfl)
end
end Go.Lq

namespace Go.Lq
open Go
open Go.Proofs
theorem wrap_u64 {n : Int} (h : 0 ≤ n ∧ n ≤ 9223372036854775807) : IntKind.u64.wrap n = n := by
  unfold IntKind.wrap IntKind.bits
  have : (2 : Int) ^ 64 = 18446744073709551616 := by decide
  simp [IntKind.signed]
  omega
theorem conv_iuR {n : Int} {H : AHeap} (h : 0 ≤ n ∧ n ≤ 9223372036854775807) : convR .u64 (.int .i64 n) H = some (.int .u64 n,H) := by
  show some (Value.int .u64 (IntKind.u64.wrap n),H) = _
  rw [wrap_u64 h]
theorem conv_uiR {n : Int} {H : AHeap} (h : 0 ≤ n ∧ n ≤ 9223372036854775807) : convR .i64 (.int .u64 n) H = some (.int .i64 n,H) := by
  show some (Value.int .i64 (w64 n),H) = _
  rw [w64_id (by omega) (by omega)]
theorem c_gtr_u {a b : Int} {H : AHeap} : cmpR .gtr (.int .u64 a) (.int .u64 b) H = some (.bool (decide (b < a)),H) := rfl
def partR (f : Int) (m n : Nat) : List Value := List.replicate m (.int .i64 f) ++ List.replicate (n - m) (.int .i64 0)
theorem partR_len {f : Int} {m n : Nat} (h : m ≤ n) : (partR f m n).length = n := by simp [partR]; omega
theorem partR_set {f : Int} {m n c : Nat} (h : m + c ≤ n) : setCells (partR f m n) m (List.replicate c (.int .i64 f)) = partR f (m + c) n := by
  unfold setCells partR
  rw [List.take_append_of_le_length (by simp),List.take_of_length_le (by simp),List.length_replicate,List.drop_append,List.drop_eq_nil_of_le (by simp),List.nil_append,List.length_replicate,List.drop_replicate]
  rw [← List.replicate_append_replicate (n := m) (m := c),show n - m - (m + c - m) = n - (m + c) by omega]
theorem partR_take {f : Int} {m n c : Nat} (h : c ≤ m) : (partR f m n).take c = List.replicate c (.int .i64 f) := by
  unfold partR
  rw [List.take_append_of_le_length (by simpa using h),List.take_replicate,Nat.min_eq_left h]
theorem all_rep (c : Nat) (f : Int) : (List.replicate c (Value.int .i64 f)).all isAtom = true := List.all_eq_true.2 fun v hv => by rw [List.eq_of_mem_replicate hv]; rfl
theorem slice_from {k n c m : Nat} {H : AHeap} (h : m ≤ n) : sliceR 1 (.slice (some ⟨k,0,none⟩) n c) (some (.int .i64 (m : Int))) none none H = some (.slice (some ⟨k,m,none⟩) (n - m) (if n = m then 1 else n - m),H) := by
  have e1 : ((n : Int) - (m : Int)).toNat = n - m := by omega
  have e2 : ((n : Int) = (m : Int)) = (n = m) := by rw [eq_iff_iff]; omega
  simp only [sliceR,sliceA,loA,hiA]
  rw [if_pos (by omega)]
  simp only [Option.map_some,e1,e2,Int.toNat_natCast,Nat.mul_one,Nat.zero_add]
theorem slice_to {k n c m : Nat} {H : AHeap} (h : m ≤ n) : sliceR 1 (.slice (some ⟨k,0,none⟩) n c) none (some (.int .i64 (m : Int))) none H = some (.slice (some ⟨k,0,none⟩) m (if m = 0 then 1 else m),H) := by
  have e1 : ((m : Int) - 0).toNat = m := by omega
  have e2 : ((m : Int) = 0) = (m = 0) := by simp
  simp only [sliceR,sliceA,loA,hiA]
  rw [if_pos (by omega)]
  simp only [Option.map_some,e1,e2,Int.toNat_zero,Nat.zero_mul,Nat.zero_add]
theorem copy_part {H : AHeap} {k n m c1 c2 : Nat} {f : Int} (h : H[k]? = some (.cells true 1 (partR f m n))) (h1 : 1 ≤ m) (h2 : m < n) :
    copyA 1 H (.slice (some ⟨k,m,none⟩) (n - m) c1) (.slice (some ⟨k,0,none⟩) m c2) = some (.int .i64 ((Nat.min m (n - m) : Nat) : Int),H.set k (.cells true 1 (partR f (m + Nat.min m (n - m)) n))) := by
  obtain ⟨a,ha⟩ : ∃ a,n - m = a + 1 := ⟨n - m - 1,by omega⟩
  obtain ⟨b,rfl⟩ : ∃ b,m = b + 1 := ⟨m - 1,by omega⟩
  rw [ha]
  obtain ⟨c,hc⟩ : ∃ c,c = Nat.min (b + 1) (a + 1) := ⟨_,rfl⟩
  have hc1 : c ≤ b + 1 := by rw [hc]; exact Nat.min_le_left _ _
  have hc2 : c ≤ a + 1 := by rw [hc]; exact Nat.min_le_right _ _
  have hl := partR_len (f := f) (m := b + 1) (n := n) (by omega)
  have hca : cellsAt H k 0 (c * 1) = some (List.replicate c (.int .i64 f)) := by
    unfold cellsAt
    rw [h]
    simp only
    rw [if_pos (by omega),List.drop_zero,Nat.mul_one,partR_take hc1]
  have hst : storeAt H k (b + 1) (List.replicate c (.int .i64 f)) = some (H.set k (.cells true 1 (partR f (b + 1 + c) n))) := by
    unfold storeAt
    rw [h]
    simp only
    rw [if_pos ⟨by rw [List.length_replicate]; omega,all_rep c f⟩,partR_set (by omega)]
  simp only [copyA]
  rw [← hc,hca]
  simp only [hst,Option.map_some]
theorem copy_first {H : AHeap} {k n c1 c2 : Nat} {f : Int} {id off : Nat} (h : H[k]? = some (.cells true 1 (partR f 0 n))) (h2 : 1 ≤ n) (hs : cellsAt H id off 1 = some [.int .i64 f]) :
    copyA 1 H (.slice (some ⟨k,0,none⟩) n c1) (.slice (some ⟨id,off,none⟩) 1 c2) = some (.int .i64 1,H.set k (.cells true 1 (partR f 1 n))) := by
  obtain ⟨a,rfl⟩ : ∃ a,n = a + 1 := ⟨n - 1,by omega⟩
  have hm : Nat.min (0 + 1) (a + 1) = 1 := Nat.min_eq_left (by omega)
  have hst : storeAt H k 0 [.int .i64 f] = some (H.set k (.cells true 1 (partR f 1 (a + 1)))) := by
    unfold storeAt
    rw [h]
    simp only
    rw [if_pos ⟨by rw [partR_len (by omega)]; simp,rfl⟩]
    have := partR_set (f := f) (m := 0) (n := a + 1) (c := 1) (by omega)
    rw [Nat.zero_add] at this
    rw [← this]; rfl
  simp only [copyA]
  rw [hm,Nat.one_mul,hs]
  simp only [hst,Option.map_some]
  rfl
section
variable {H : AHeap}
theorem repeat_c {f : Int} {v : Value} {n : Nat} (hx : Big H) (hv : Ints H [f] v) (h0 : 1 ≤ n) (h12 : n ≤ 12) :
    ACall Go.Proofs.Tryz.prog 66 [v,.int .i64 n] H (IntsRet H (List.replicate n f)) := by
  refine ACall.ints ?_
  obtain ⟨id,off,cc,rfl,hca⟩ : ∃ id off cc,v = .slice (some ⟨id,off,none⟩) 1 cc ∧ cellsAt H id off 1 = some [.int .i64 f] := by
    rcases hv.2 with ⟨_,h⟩ | ⟨id,off,c,rfl,hc⟩
    · cases h
    · exact ⟨id,off,c,rfl,hc (by simp)⟩
  (refine a66 ?_; simp only [n66,List.replicate,yq,yr,yt,yu]; first | refine q1 ?_ | refine q2 ?_ | refine q6 ?_ | refine q7 ?_ | refine qh rfl ?_ | skip)
  (repeat(first|refine yw ?_|((first|apply yd|apply ye);simp (disch:=first|exact zz|fail) only[go_sem,dec_f (show ¬ (n : Int) < 0 by omega)];with_reducible rfl)))
  refine cond_f rfl ?_
  (repeat(first|refine yw ?_|((first|apply yd|apply ye);simp (disch:=first|exact zz|fail) only[go_sem,conv_iuR (n := (n : Int)) (by omega),show ((1 : Nat) : Int) = 1 from rfl,conv_iuR (n := 1) (by omega)];with_reducible rfl)))
  refine aops_call_to (mul_c hx h0 h12) ?_
  (repeat(first|refine yw ?_|((first|apply yd|apply ye);simp (disch:=first|exact zz|fail) only[go_sem,c_gtr_u,dec_f (show ¬ (0 : Int) < 0 by decide),dec_f (show ¬ (9223372036854775807 : Int) < (n : Int) by omega)];with_reducible rfl)))
  refine cond_f rfl ?_
  have hz : H ++ [AObj.cells true 1 ((List.replicate n (0 : Int)).map (.int .i64))] = H ++ [.cells true 1 (partR f 0 n)] := by simp [partR]
  (repeat(first|refine yw ?_|((first|apply yd|apply ye);simp (disch:=first|exact zz|fail) only[go_sem,conv_uiR (n := (n : Int)) (by omega),mkSlice_ints (n := n) (by omega) (by omega),hz];with_reducible rfl)))
  have hk : (H ++ [AObj.cells true 1 (partR f 0 n)])[H.length]? = some (.cells true 1 (partR f 0 n)) := at_new
  have hcp := copy_first (c1 := n) (c2 := cc) hk h0 (cellsAt_ext ((Ext.refl H).app _) hca)
  have hx1 : Ext H ((H ++ [AObj.cells true 1 (partR f 0 n)]).set H.length (.cells true 1 (partR f 1 n))) := ((Ext.refl H).app _).set (Nat.le_refl _) _
  have hk1 := get_set_self (d := AObj.cells true 1 (partR f 1 n)) hk
  (repeat(first|refine yw ?_|((first|apply yd|apply ye);simp (disch:=first|exact zz|fail) only[go_sem,hcp];with_reducible rfl)))
  refine awp_loop_n [false,false,false,false,false,false,false,true,true,false,false,false,false,false,false,false,false,false,false,false,false,false,false,false,false,false,false,false,false,false,false,false,false,false,false,false,false,false,false,false,false,false,false,false,false,false,false,false] n (fun i e H' => ∃ m : Nat,e = [junk,junk,junk,junk,junk,junk,junk,.slice (some ⟨H.length,0,none⟩) n n,.int .i64 m,junk,junk,junk,junk,junk,junk,junk,junk,junk,junk,junk,junk,junk,junk,junk,junk,junk,junk,junk,junk,junk,junk,junk,junk,junk,junk,junk,junk,junk,junk,junk,junk,junk,junk,junk,junk,junk,junk,junk] ∧ Ext H H' ∧ H'[H.length]? = some (.cells true 1 (partR f m n)) ∧ i + 1 ≤ m ∧ m ≤ n) ?_ ?_
  · exact ⟨1,by simp [forget],hx1,hk1,by omega,h0⟩
  rintro i e H2 hi ⟨m,rfl,hx2,hk2,hm1,hm2⟩
  (refine yg ?_)
  refine cond_p rfl (fun hlt => ?_) (fun hge => ?_)
  · have hmn : m < n := by omega
    have hcp2 := copy_part (c1 := if n = m then 1 else n - m) (c2 := if m = 0 then 1 else m) hk2 (by omega) hmn
    have hmin : Nat.min m (n - m) ≤ n - m := Nat.min_le_right _ _
    have hmin1 : 1 ≤ Nat.min m (n - m) := Nat.le_min.2 ⟨by omega,by omega⟩
    (repeat(first|refine yw ?_|((first|apply yd|apply ye);simp (disch:=first|exact zz|fail) only[go_sem,slice_from (k := H.length) (c := n) hm2,slice_to (k := H.length) (c := n) hm2,hcp2];with_reducible rfl)))
    refine ⟨by omega,m + Nat.min m (n - m),by simp [forget],hx2.set (Nat.le_refl _) _,get_set_self hk2,by omega,by omega⟩
  · obtain rfl : m = n := by omega
    have e1 : partR f m m = (List.replicate m f).map (.int .i64) := by simp [partR]
    (refine yg ?_)
    refine fin_1 ⟨hx2,?_⟩
    refine ⟨by simp,.inr ⟨H.length,by simp,Nat.le_refl _,by rw [List.length_replicate]; omega,by rw [hk2,e1]⟩⟩
end
end Go.Lq

namespace Go.Lq
open Go
open Go.Proofs
def backV (vs : List Value) : Nat → List (List Value)
  | 0 => []
  | n + 1 => [.int .i64 n,vs.getD n undef] :: backV vs n
section
variable {H : AHeap}
def BackFact (idt : Nat) (ll : List (List Int)) (vs : List Value) (v : Value) (H : AHeap) : Prop := H[idt]? = some (.cells true 0 [v]) ∧ Lists H ll vs v
theorem back1_c {idt : Nat} {ll : List (List Int)} {vs : List Value} {v : Value} (h1000 : ll.length ≤ 1000) :
    GenA Go.Proofs.Tryz.prog 83 [] [.pointer (some ⟨idt,0,none⟩)] (BackFact idt ll vs v) (backV vs ll.length) := by
  intro l I S H hF hround hI0
  show ACall _ _ [.func (.yield l) #[] #[],.pointer (some ⟨idt,0,none⟩)] _ _
  obtain ⟨f1,f2⟩ := hF _ _ hI0
  (refine a83 ?_; simp only [n83,List.replicate,yq,yr,yt,yu]; first | refine q1 ?_ | refine q2 ?_ | refine q6 ?_ | refine q7 ?_ | refine qh rfl ?_ | skip)
  (repeat(first|refine yw ?_|((first|apply yd|apply ye);simp (disch:=first|exact zz|fail) only[go_sem,f2.len,f2.idx,f2.load,load_at f1];with_reducible rfl)))
  refine awp_loop_n [true,true,false,true,false,false,false,false,false,false,false,false,false,false,false,false,false,false,false] ll.length (fun i e H' => e = [.func (.yield l) #[] #[],.pointer (some ⟨idt,0,none⟩),junk,.int .i64 ((ll.length : Int) - 1 - i),junk,junk,junk,junk,junk,junk,junk,junk,junk,junk,junk,junk,junk,junk,junk] ∧ I (backV vs (ll.length - i)) H') ?_ ?_
  · exact ⟨by simp [forget],hI0⟩
  rintro i e H1 hi ⟨rfl,hI⟩
  obtain ⟨f1',f2'⟩ := hF _ _ hI
  (refine yg ?_)
  refine cond_p rfl (fun hle => ?_) (fun hgt => ?_)
  rotate_left 1
  · obtain rfl : i = ll.length := by omega
    rw [Nat.sub_self] at hI
    (refine yg ?_)
    exact ⟨.inl rfl,undef,rfl,.inl hI⟩
  have hi' : i < ll.length := by omega
  obtain ⟨j,hj⟩ : ∃ j,j = ll.length - (i + 1) := ⟨_,rfl⟩
  rw [show ll.length - i = j + 1 by omega] at hI
  have ej : (ll.length : Int) - 1 - i = (j : Int) := by omega
  rw [ej]
  have hjl : j < ll.length := by omega
  (repeat(first|refine yw ?_|((first|apply yd|apply ye);simp (disch:=first|exact zz|fail) only[go_sem,f2'.len,f2'.idx,f2'.load,load_at f1',f2'.load (Ext.refl _) hjl];with_reducible rfl)))
  refine aops_call ((hround _ _ _ hI).mono fun v1 H3 h => ?_)
  rcases h with ⟨rfl,hI3⟩ | ⟨rfl,hS⟩
  · (refine yg ?_)
    refine cond_f rfl ?_
    (refine yg ?_)
    exact ⟨by omega,by simp [forget]; omega,by rw [← hj]; exact hI3⟩
  · (refine yg ?_)
    refine cond_t rfl ?_
    (refine yg ?_)
    exact ⟨.inr rfl,undef,rfl,.inr hS⟩
theorem backward_c {ll : List (List Int)} {vs : List Value} {v : Value} (hL : Lists H ll vs v) :
    ACall Go.Proofs.Tryz.prog 65 [v] H fun v1 H' =>
      v1 = .func (.func 83) #[] #[.pointer (some ⟨H.length,0,none⟩)] ∧ H' = H ++ [.cells true 0 [v]] := by
  have hb : ∀ {H' : AHeap},boxR v H' = some (.pointer (some ⟨H'.length,0,none⟩),H' ++ [.cells true 0 [v]]) := by
    rcases hL.1.2 with ⟨rfl,_⟩ | ⟨id,off,c,rfl,_⟩ <;> exact fun {_} => rfl
  (refine a65 ?_; simp only [n65,List.replicate,yq,yr,yt,yu]; first | refine q1 ?_ | refine q2 ?_ | refine q6 ?_ | refine q7 ?_ | refine qh rfl ?_ | skip)
  (repeat(first|refine yw ?_|((first|apply yd|apply ye);simp (disch:=first|exact zz|fail) only[go_sem,hb];with_reducible rfl)))
  refine fin_1 ⟨?_,rfl⟩
  simp [go_sem]
end
end Go.Lq

namespace Go.Lq
open Go
open Go.Proofs
def Kp (A : Nat → Prop) (G H : AHeap) : Prop := G.length ≤ H.length ∧ ∀ i c,A i → G[i]? = some c → H[i]? = some c
section
variable {A : Nat → Prop} {G H H' : AHeap} {k L n : Nat} {T : List (List Int)} {vs : List Value}
theorem Kp.refl (A : Nat → Prop) (H : AHeap) : Kp A H H := ⟨Nat.le_refl _,fun _ _ _ h => h⟩
theorem Kp.trans (h : Kp A G H) (h' : Kp A H H') : Kp A G H' := ⟨Nat.le_trans h.1 h'.1,fun i c ha hc => h'.2 i c ha (h.2 i c ha hc)⟩
theorem Kp.app (h : Kp A G H) (N : AHeap) : Kp A G (H ++ N) := ⟨by have := h.1; simp only [List.length_append]; omega,fun i c ha hc => at_app (h.2 i c ha hc)⟩
theorem Kp.set (h : Kp A G H) {j : Nat} (hj : ¬ A j ∨ G.length ≤ j) (o : AObj) : Kp A G (H.set j o) := ⟨by simpa using h.1,fun i c ha hc => by
  have hi := (List.getElem?_eq_some_iff.1 hc).1
  rw [List.getElem?_set_ne]
  · exact h.2 i c ha hc
  · rintro rfl
    rcases hj with hj | hj
    · exact hj ha
    · omega⟩
theorem Kp.mono {B : Nat → Prop} (h : Kp A G H) (hb : ∀ i,i < G.length → B i → A i) : Kp B G H := ⟨h.1,fun i c hi hc => h.2 i c (hb i (List.getElem?_eq_some_iff.1 hc).1 hi) hc⟩
theorem Keeps.kp (h : Keeps k G H) (h' : Kp A H H') (ha : ∀ i,i < G.length → i ≠ k → A i) : Keeps k G H' := ⟨Nat.le_trans h.1 h'.1,fun i hi hk => by
  have e := h.2 i hi hk
  rw [List.getElem?_eq_getElem hi] at e ⊢
  exact h'.2 i _ (ha i hi hk) e⟩
theorem aside_set {l : List Int} {i j : Nat} (hl : l.length = (T.getD i []).length) (h : Aside k T vs j) : Aside k (T.set i l) vs j := by
  refine ⟨h.1,fun a ha ha0 => ?_⟩
  simp only [List.length_set] at ha
  refine h.2 a ha ?_
  by_cases hai : a = i
  · subst hai
    rw [getD_set_eq ha] at ha0
    omega
  · rwa [getD_set_ne (Ne.symm hai)] at ha0
theorem OwnR.setCell3 (h : OwnR k H T vs) {i c : Nat} (hi : i < T.length) (hc : c < (T.getD i []).length) (x : Int) :
    ∃ H2,storeR 1 (addrOf (vs.getD i undef) c) (.int .i64 x) H = some (undef,H2) ∧ OwnR k H2 (T.set i ((T.getD i []).set c x)) vs ∧ Kp (Aside k T vs) H H2 := by
  obtain ⟨h1,h2,h3⟩ := h.setCell hi hc x
  exact ⟨_,h1,h2,by rw [setH_len]; exact Nat.le_refl _,h3⟩
def Far (L : Nat) (T : List (List Int)) (vs : List Value) : Prop := ∀ i,i < T.length → 0 < (T.getD i []).length → L < idOf (vs.getD i undef)
theorem Far.aside (h : Far L T vs) {j : Nat} (hj : j ≤ L) (hk : j ≠ k) : Aside k T vs j := ⟨hk,fun i hi hl => by have := h i hi hl; omega⟩
theorem Far.set (h : Far L T vs) {l : List Int} {i : Nat} (hl : l.length = (T.getD i []).length) : Far L (T.set i l) vs := fun a ha ha0 => by
  simp only [List.length_set] at ha
  refine h a ha ?_
  by_cases hai : a = i
  · subst hai
    rw [getD_set_eq ha] at ha0
    omega
  · rwa [getD_set_ne (Ne.symm hai)] at ha0
theorem OwnR.newRow (h : OwnR k H T vs) {i : Nat} (hi : i < T.length) (l : List Int) (hL : L < H.length) (hf : Far L T vs) :
    ∃ vs2 H2,(∀ n c,storeR 1 (addrOf (.slice (some ⟨k,0,none⟩) n c) i) (retV H l.length) (H ++ retN 1 l.length (l.map (.int .i64))) = some (undef,H2)) ∧ OwnR k H2 (T.set i l) vs2 ∧ Far L (T.set i l) vs2 ∧ Kp (· ≠ k) H H2 ∧
      ∀ j,j < H.length → Aside k T vs j → Aside k (T.set i l) vs2 j := by
  have hown : OwnI [] (H ++ retN 1 l.length (l.map (.int .i64))) l (retV H l.length) := OwnI.ret_own (by simp)
  have hid : 0 < l.length → idOf (retV H l.length) = H.length := fun h0 => by unfold retV; rw [if_neg (by omega)]; rfl
  obtain ⟨h1,h2⟩ := (h.app (retN 1 l.length (l.map (.int .i64)))).setRow hi hown (fun h0 => by rw [hid h0]; exact h.lt) (fun j hj hji hj0 h0 => by rw [hid h0]; have := h.idlt hj hj0; omega)
  have hvi : i < vs.length := by rw [h.len]; exact hi
  refine ⟨_,_,h1,h2,fun a ha ha0 => ?_,?_,fun j hj hja => ⟨hja.1,fun a ha ha0 => ?_⟩⟩
  · simp only [List.length_set] at ha
    by_cases hai : a = i
    · subst hai
      rw [getD_set_eq ha] at ha0
      rw [getD_set_eq hvi,hid ha0]; exact hL
    · rw [getD_set_ne (Ne.symm hai)] at ha0
      rw [getD_set_ne (Ne.symm hai)]
      exact hf a ha ha0
  · exact ((Kp.refl _ H).app _).set (.inl (by simp)) _
  · simp only [List.length_set] at ha
    by_cases hai : a = i
    · subst hai
      rw [getD_set_eq ha] at ha0
      rw [getD_set_eq hvi,hid ha0]; omega
    · rw [getD_set_ne (Ne.symm hai)] at ha0
      rw [getD_set_ne (Ne.symm hai)]
      exact hja.2 a ha ha0
end
def restRow (ll : List (List Int)) (bend : Int) (isL : Nat → Bool) (k : Nat) : List Int := (List.range (ll.getD 0 []).length).map (restK ll bend isL k)
def restTab (ll : List (List Int)) (bend : Int) (isL : Nat → Bool) : List (List Int) := (List.range ll.length).map fun r => restRow ll bend isL (ll.length - 1 - r)
def partT (ll : List (List Int)) (bend : Int) (isL : Nat → Bool) (r : Nat) : List (List Int) := (List.range ll.length).map fun i => if r ≤ i then restRow ll bend isL (ll.length - 1 - i) else []
def partW (ll : List (List Int)) (bend : Int) (isL : Nat → Bool) (k i : Nat) : List Int := (List.range (ll.getD 0 []).length).map fun c => if c < i then restK ll bend isL k c else 1000000
section
variable {ll : List (List Int)} {bend : Int} {isL : Nat → Bool}
theorem partT_len (r : Nat) : (partT ll bend isL r).length = ll.length := by simp [partT]
theorem partT_zero : partT ll bend isL 0 = restTab ll bend isL := by simp [partT,restTab]
theorem partT_getD {r i : Nat} (hi : i < ll.length) (hr : r ≤ i) : (partT ll bend isL r).getD i [] = restRow ll bend isL (ll.length - 1 - i) := by
  unfold partT
  rw [getD_map_range hi,if_pos hr]
theorem partT_below {r i : Nat} (hr : i < r) : (partT ll bend isL r).getD i [] = [] := by
  by_cases hi : i < ll.length
  · unfold partT
    rw [getD_map_range hi,if_neg (by omega)]
  · exact getD_ge (by rw [partT_len]; omega)
theorem partT_set {r : Nat} (hr : r < ll.length) : (partT ll bend isL (r + 1)).set r (restRow ll bend isL (ll.length - 1 - r)) = partT ll bend isL r := by
  refine ext_getD (d := []) (by simp [partT_len]) fun i hi => ?_
  simp only [List.length_set,partT_len] at hi
  rw [getD_set (by rw [partT_len]; exact hr)]
  split
  · rename_i h; subst h
    rw [partT_getD hi (Nat.le_refl _)]
  · rename_i h
    by_cases h2 : r + 1 ≤ i
    · rw [partT_getD hi h2,partT_getD hi (by omega)]
    · rw [partT_below (by omega),partT_below (by omega)]
theorem restRow_len (k : Nat) : (restRow ll bend isL k).length = (ll.getD 0 []).length := by simp [restRow]
theorem restRow_getD {k c : Nat} (hc : c < (ll.getD 0 []).length) : (restRow ll bend isL k).getD c 0 = restK ll bend isL k c := by
  unfold restRow
  rw [getD_map_range hc]
theorem partW_len (k i : Nat) : (partW ll bend isL k i).length = (ll.getD 0 []).length := by simp [partW]
theorem partW_zero (k : Nat) : partW ll bend isL k 0 = List.replicate (ll.getD 0 []).length 1000000 := by
  refine ext_getD (d := 0) (by simp [partW]) fun i hi => ?_
  rw [partW_len] at hi
  unfold partW
  rw [getD_map_range hi,if_neg (by omega),List.getD_eq_getElem?_getD,List.getElem?_replicate,if_pos hi]; rfl
theorem partW_getD {k i c : Nat} (hc : c < (ll.getD 0 []).length) : (partW ll bend isL k i).getD c 0 = if c < i then restK ll bend isL k c else 1000000 := by
  unfold partW
  rw [getD_map_range hc]
theorem partW_set {k i : Nat} (hi : i < (ll.getD 0 []).length) : (partW ll bend isL k i).set i (restK ll bend isL k i) = partW ll bend isL k (i + 1) := by
  refine ext_getD (d := 0) (by simp [partW]) fun c hc => ?_
  simp only [List.length_set,partW_len] at hc
  rw [getD_set (by rw [partW_len]; exact hi),partW_getD hc,partW_getD hc]
  split
  · rename_i h; subst h
    rw [if_pos (by omega)]
  · rename_i h
    by_cases h2 : c < i
    · rw [if_pos h2,if_pos (by omega)]
    · rw [if_neg h2,if_neg (by omega)]
theorem partW_all (k : Nat) : partW ll bend isL k (ll.getD 0 []).length = restRow ll bend isL k := by
  refine ext_getD (d := 0) (by simp [partW,restRow]) fun c hc => ?_
  rw [partW_len] at hc
  rw [partW_getD hc,if_pos hc,restRow_getD hc]
end
end Go.Lq

namespace Go.Lq
open Go
open Go.Proofs
theorem partT_top {ll : List (List Int)} {bend : Int} {isL : Nat → Bool} : partT ll bend isL ll.length = List.replicate ll.length [] := by
  refine ext_getD (d := []) (by simp [partT]) fun i hi => ?_
  rw [partT_len] at hi
  rw [partT_below hi,List.getD_eq_getElem?_getD,List.getElem?_replicate,if_pos hi]; rfl
theorem partW_same {ll : List (List Int)} {bend : Int} {isL : Nat → Bool} {k i : Nat} (h : restK ll bend isL k i = 1000000) : partW ll bend isL k (i + 1) = partW ll bend isL k i := by
  refine ext_getD (d := 0) (by simp [partW]) fun c hc => ?_
  rw [partW_len] at hc
  rw [partW_getD hc,partW_getD hc]
  by_cases h2 : c < i
  · rw [if_pos h2,if_pos (by omega)]
  · rw [if_neg h2]
    split
    · obtain rfl : c = i := by omega
      exact h
    · rfl
theorem partW_init {ll : List (List Int)} {bend : Int} {isL : Nat → Bool} {k i : Nat} (hi : i < (ll.getD 0 []).length) : (partW ll bend isL k i).set i 1000000 = partW ll bend isL k i := by
  refine ext_getD (d := 0) (by simp) fun c hc => ?_
  simp only [List.length_set,partW_len] at hc
  rw [getD_set (by rw [partW_len]; exact hi)]
  split
  · rename_i h; subst h
    rw [partW_getD hc,if_neg (Nat.lt_irrefl _)]
  · rfl
theorem OwnR.high {k : Nat} {H : AHeap} {ll : List (List Int)} {vs : List Value} (h : OwnR k H ll vs) {j : Nat} (hj : H.length ≤ j) : Aside k ll vs j :=
  ⟨by have := h.lt; omega,fun i hi hl => by have := h.idlt hi hl; omega⟩
theorem store_newS {H : AHeap} {a : Option Addr} {n c : Nat} {x : Value} : storeR 1 (.pointer (some ⟨H.length,0,none⟩)) (.slice a n c) (H ++ [.cells true 0 [x]]) = some (undef,H ++ [.cells true 0 [.slice a n c]]) := by
  rw [store_at1 (at_new : (H ++ [AObj.cells true 0 [x]])[H.length]? = _) rfl rfl]
  simp
theorem store_2nd {H : AHeap} {x c d : Value} {n : Int} (hx : x = .int .i64 n) : storeR 1 (.pointer (some ⟨H.length,0,none⟩)) x (H ++ [.cells true 0 [c]] ++ [.cells true 0 [d]]) = some (undef,H ++ [.cells true 0 [x]] ++ [.cells true 0 [d]]) := by
  subst hx
  rw [store_at1 (at_app (at_new : (H ++ [AObj.cells true 0 [c]])[H.length]? = _)) rfl rfl]
  simp
theorem store_2nd' {H : AHeap} {c c' d : Value} {n : Int} : storeR 1 (.pointer (some ⟨(H ++ [AObj.cells true 0 [c]]).length,0,none⟩)) (.int .i64 n) (H ++ [.cells true 0 [c']] ++ [.cells true 0 [d]]) = some (undef,H ++ [.cells true 0 [c']] ++ [.cells true 0 [.int .i64 n]]) := by
  rw [show (H ++ [AObj.cells true 0 [c]]).length = (H ++ [AObj.cells true 0 [c']]).length by simp,store_at1 (at_new : (H ++ [AObj.cells true 0 [c']] ++ [AObj.cells true 0 [d]])[(H ++ [AObj.cells true 0 [c']]).length]? = _) rfl rfl]
  simp
theorem Far.below {L r : Nat} {ll : List (List Int)} {bend : Int} {isL : Nat → Bool} {vs : List Value} (h : ll.length ≤ r) : Far L (partT ll bend isL r) vs := fun i hi hl => by
  rw [partT_len] at hi
  rw [partT_below (by omega)] at hl
  exact absurd hl (by simp)
section
variable {H : AHeap}
set_option maxHeartbeats 2000000 in
theorem rest_c {ll : List (List Int)} {vs : List Value} {v : Value} {bend : Int} {fn : Fn} {cs ys : Array Value} {p : Int → Bool} (hx0 : Big H) (hL : Lists H ll vs v) (hg : gridErrL 40 12 ll = 0) (hb : 0 ≤ bend ∧ bend ≤ 1000)
    (hf : ∀ H',Ext H H' → AsksAt H' (.func fn cs ys) p) :
    ACall Go.Proofs.Tryz.prog 37 [.agg ⟨[v,.int .i64 bend]⟩,.func fn cs ys] H fun v1 H' => v1 = retLV H (restTab ll bend fun c : Nat => p c) ∧ H' = H ++ retLN H (restTab ll bend fun c : Nat => p c) := by
  refine ACall.tidyL (f := id) wraps_id ?_
  obtain ⟨w1,w2,w3,w4,w5,w6⟩ := gridErr_ok hg
  obtain ⟨isL,hisL⟩ : ∃ isL : Nat → Bool,isL = fun c : Nat => p c := ⟨_,rfl⟩
  have eL : ∀ i : Nat,p i = isL i := fun i => by rw [hisL]
  rw [← hisL]
  have hbf : ∀ {H' : AHeap},boxR (.func fn cs ys) H' = some (.pointer (some ⟨H'.length,0,none⟩),H' ++ [.cells true 0 [.func fn cs ys]]) := rfl
  (refine a37 ?_; simp only [n37,List.replicate,yq,yr,yt,yu]; first | refine Go.Lq.q1 ?_ | refine Go.Lq.q2 ?_ | refine Go.Lq.q6 ?_ | refine Go.Lq.q7 ?_ | refine Go.Lq.qh rfl ?_ | skip)
  (repeat(first|refine yw ?_|((first|apply yd|apply ye);simp (disch:=first|exact zz|fail) only[go_sem,hL.box2,hbf];with_reducible rfl)))
  (simp only [List.length_append,List.length_cons,List.length_nil,Nat.zero_add,Nat.add_assoc,Nat.reduceAdd])
  obtain ⟨G,hG⟩ : ∃ G,G = H ++ [AObj.cells true 0 [v,.int .i64 bend]] ++ [AObj.cells true 0 [.func fn cs ys]] := ⟨_,rfl⟩
  have q0 : G[H.length]? = some (.cells true 0 [v,.int .i64 bend]) := by rw [hG]; exact at_app at_new
  have q1 : G[H.length + 1]? = some (.cells true 0 [.func fn cs ys]) := by rw [hG]; simp
  have qx : Ext H G := by rw [hG]; exact ((Ext.refl H).app _).app _
  have ql : G.length = H.length + 2 := by rw [hG]; simp
  rw [← hG]
  clear hG
  have q2 : (G ++ [AObj.cells true 1 (List.replicate ll.length (.slice none 0 0))] ++ [AObj.cells true 0 [.slice (some ⟨G.length,0,none⟩) ll.length ll.length]])[H.length]? = some (.cells true 0 [v,.int .i64 bend]) := at_app (at_app q0)
  (repeat(first|refine yw ?_|((first|apply yd|apply ye);simp (disch:=first|exact zz|fail) only[go_sem,hL.len,hL.idx,hL.load,load_at q0,load_at q2,store_newS,mkSlice_nils (n := ll.length) w1 (by omega)];with_reducible rfl)))
  refine aops_call ((backward_c (hL.ext ((qx.app _).app _))).mono fun v1 H1 ⟨e1,e2⟩ => ?_)
  rw [show (G ++ [AObj.cells true 1 (List.replicate ll.length (.slice none 0 0))] ++ [AObj.cells true 0 [.slice (some ⟨G.length,0,none⟩) ll.length ll.length]]).length = H.length + 4 by simp [ql]] at e1
  subst e1
  have g0 : H1[H.length]? = some (.cells true 0 [v,.int .i64 bend]) := by rw [e2]; exact at_app (at_app (at_app q0))
  have g1 : H1[H.length + 1]? = some (.cells true 0 [.func fn cs ys]) := by rw [e2]; exact at_app (at_app (at_app q1))
  have g3 : H1[H.length + 3]? = some (.cells true 0 [.slice (some ⟨H.length + 2,0,none⟩) ll.length ll.length]) := by rw [e2,← ql,show H.length + 3 = (G ++ [AObj.cells true 1 (List.replicate ll.length (.slice none 0 0))]).length by simp [ql]]; exact at_app at_new
  have g4 : H1[H.length + 4]? = some (.cells true 0 [v]) := by rw [e2,show H.length + 4 = (G ++ [AObj.cells true 1 (List.replicate ll.length (.slice none 0 0))] ++ [AObj.cells true 0 [.slice (some ⟨G.length,0,none⟩) ll.length ll.length]]).length by simp [ql]]; exact at_new
  have xG : Ext H H1 := by rw [e2]; exact ((qx.app _).app _).app _
  have lG : H1.length = H.length + 5 := by rw [e2]; simp [ql]
  have ho : OwnR (H.length + 2) H1 (partT ll bend isL ll.length) (List.replicate ll.length (.slice none 0 0)) := by
    have := OwnR.nils (H := G) ll.length
    rw [ql] at this
    rw [partT_top,e2]
    exact (this.app _).app _
  clear e2
  (simp only [List.length_append,List.length_cons,List.length_nil,Nat.zero_add,Nat.add_assoc,Nat.reduceAdd])
  simp only [ql,Nat.add_assoc,Nat.reduceAdd]
  refine yx ?_
  refine awp_rangeA mo rfl (fun l h => by cases h) (back1_c (idt := H.length + 4) (ll := ll) (vs := vs) (v := v) (by omega))
    (fun rest H' => ∃ r vs',rest = backV vs r ∧ r ≤ ll.length ∧ Keeps (H.length + 2) H1 H' ∧ OwnR (H.length + 2) H' (partT ll bend isL r) vs' ∧ Far H1.length (partT ll bend isL r) vs')
    (fun _ _ => False) ?_ (fun _ _ _ h => h.elim) ?_ ?_ ?_ ?_ (fun _ _ _ h => h.elim)
  · rintro rest H' c ⟨r,vs',h1,h2,h3,h4,h5⟩
    exact ⟨r,vs',h1,h2,h3.set (.inr (Nat.le_refl _)) _,h4.set (h5.aside (Nat.le_refl _) (by omega)) _,h5⟩
  · rintro rest H' ⟨r,vs',h1,h2,h3,h4,h5⟩
    exact ⟨h3.get g4 (by omega),hL.ext (h3.ext xG (by omega))⟩
  · intro N
    exact ⟨ll.length,_,rfl,Nat.le_refl _,Keeps.of_ext ((Ext.refl _).app N),ho.app N,Far.below (Nat.le_refl _)⟩
  · rintro a rest H2 ⟨r,vs',h1,h2,h3,h4,h5⟩ hlt
    match r,h1 with
    | r + 1,h1 =>
    obtain ⟨rfl,rfl⟩ := List.cons.inj h1
    refine ⟨rfl,fun R Rb hRl hR => ?_⟩
    simp only [assignParams,List.zip_cons_cons,List.zip_nil_left,List.zip_nil_right,List.foldl_cons,List.foldl_nil]
    (refine yg ?_)
    refine ⟨rfl,at_app hR,?_⟩
    have hr : r < ll.length := by omega
    have hRb := get_set_self (d := Rb) (at_app (N := [AObj.cells true 0 [.int .i64 (r : Int)]]) hR)
    have kb : Keeps (H.length + 2) H1 ((H2 ++ [AObj.cells true 0 [.int .i64 (r : Int)]]).set H1.length Rb) := (h3.app _).set (.inr (Nat.le_refl _)) _
    have ob : OwnR (H.length + 2) ((H2 ++ [AObj.cells true 0 [.int .i64 (r : Int)]]).set H1.length Rb) (partT ll bend isL (r + 1)) vs' := (h4.app _).set (h5.aside (Nat.le_refl _) (by omega)) _
    have b6 : ((H2 ++ [AObj.cells true 0 [.int .i64 (r : Int)]]).set H1.length Rb)[H2.length]? = some (.cells true 0 [.int .i64 (r : Int)]) := by rw [List.getElem?_set_ne (by omega)]; exact at_new
    have lb : ((H2 ++ [AObj.cells true 0 [.int .i64 (r : Int)]]).set H1.length Rb).length = H2.length + 1 := by simp
    have as6 : Aside (H.length + 2) (partT ll bend isL (r + 1)) vs' H2.length := h4.high (Nat.le_refl _)
    generalize ((H2 ++ [AObj.cells true 0 [.int .i64 (r : Int)]]).set H1.length Rb : AHeap) = Hb at hRb kb ob b6 lb
    have xb : Ext H Hb := kb.ext xG (by omega)
    have oc := ob.app [AObj.cells true 1 [.int .i64 1000000]]
    have hLT := oc.lists (n := ll.length) (c := ll.length) (partT_len _).symm
    have hTl := partT_len (ll := ll) (bend := bend) (isL := isL) (r + 1)
    obtain ⟨vs2,H3,s1,o3,f3,k3',a3⟩ := oc.newRow (i := r) (L := H1.length) (by omega) (List.replicate (ll.getD 0 []).length 1000000) (by simp; omega) h5
    (repeat(first|refine yw ?_|((first|apply yd|apply ye);simp (disch:=first|exact zz|fail) only[go_sem,load_at (kb.get g3 (by omega)),load_at b6,loadN_at (kb.get g0 (by omega))];with_reducible rfl)))
    refine adraw_free (fun G ⟨N,hG⟩ => columns_c (hL.ext (xb.trans ⟨N,hG⟩)) w1) ?_
    (refine yg ?_)
    refine adraw_call (repeat_c (f := 1000000) (n := (ll.getD 0 []).length) ((hx0.trans xb).app _) (Ints.last (l := [1000000]) 1) w2 (by omega)) ?_
    have hrowb := (hL.ext xb).row hr
    (repeat(first|refine yw ?_|((first|apply yd|apply ye);simp (disch:=first|exact zz|fail) only[go_sem,hLT.len,hLT.idx,hLT.load,hrowb.len,hrowb.idx,hrowb.load,s1];with_reducible rfl)))
    have as6' := a3 H2.length (by simp; omega) as6
    rw [← partW_zero (ll := ll) (bend := bend) (isL := isL) (ll.length - 1 - r)] at o3 f3 as6'
    have k3 : Keeps (H.length + 2) H1 H3 := kb.kp (((Kp.refl _ _).app _).trans k3') (fun _ _ h => h)
    have r3 : H3[H1.length]? = some Rb := k3'.2 _ _ (by simp; omega) (at_app hRb)
    have b63 : H3[H2.length]? = some (.cells true 0 [.int .i64 (r : Int)]) := k3'.2 _ _ (by simp; omega) (at_app b6)
    clear s1 k3' a3
    have fW : ∀ l : List Int,l.length = (ll.getD 0 []).length → Far H1.length ((partT ll bend isL (r + 1)).set r l) vs2 := fun l hl => by
      have := f3.set (i := r) (l := l) (by rw [getD_set_eq (by omega),partW_len]; exact hl)
      rwa [List.set_set] at this
    have aW : ∀ (l l' : List Int) (j : Nat),l.length = (ll.getD 0 []).length → l'.length = (ll.getD 0 []).length → Aside (H.length + 2) ((partT ll bend isL (r + 1)).set r l) vs2 j → Aside (H.length + 2) ((partT ll bend isL (r + 1)).set r l') vs2 j := fun l l' j hl hl' h => by
      have := aside_set (i := r) (l := l') (by rw [getD_set_eq (by omega),hl,hl']) h
      rwa [List.set_set] at this
    refine awp_loop_n [false,false,true,true,false,true,true,false,false,false,false,false,false,false,false,false,false,false,false,false,false,false,false,false,false,false,false,false,false,true,true,true,false,false,false,false,false,false,false,false,false,false,false,false,false,false,false,false,false,false,false,false,false,false,false,false,false,false,false,false,false,false,false,false,false,false,false,false,false,false,false,false,false,false,false,false,false,false,false,false,false,false,false,false,false] (ll.getD 0 []).length (fun i e H' => e = [junk,junk,.pointer (some ⟨H.length,0,none⟩),.pointer (some ⟨H.length + 1,0,none⟩),junk,.pointer (some ⟨H.length + 3,0,none⟩),.pointer (some ⟨H2.length,0,none⟩),junk,junk,junk,junk,junk,junk,junk,junk,junk,junk,junk,junk,junk,junk,junk,junk,junk,junk,junk,junk,junk,junk,vs.getD r undef,.int .i64 ((ll.getD 0 []).length : Nat),.int .i64 i,junk,junk,junk,junk,junk,junk,junk,junk,junk,junk,junk,junk,junk,junk,junk,junk,junk,junk,junk,junk,junk,junk,junk,junk,junk,junk,junk,junk,junk,junk,junk,junk,junk,junk,junk,junk,junk,junk,junk,junk,junk,junk,junk,junk,junk,junk,junk,junk,junk,junk,junk,junk,junk] ∧
      Kp (Aside (H.length + 2) ((partT ll bend isL (r + 1)).set r (partW ll bend isL (ll.length - 1 - r) 0)) vs2) H3 H' ∧ OwnR (H.length + 2) H' ((partT ll bend isL (r + 1)).set r (partW ll bend isL (ll.length - 1 - r) i)) vs2) ?_ ?_
    · exact ⟨by rw [← w5 r hr]; simp [forget],Kp.refl _ _,o3⟩
    rintro i e H4 hi ⟨rfl,kp4,o4⟩
    have K4 : Keeps (H.length + 2) H1 H4 := k3.kp kp4 (fun i hi hne => f3.aside (by omega) hne)
    have x4 : Ext H H4 := K4.ext xG (by omega)
    have hrow4 := (hL.ext x4).row hr
    have b64 := kp4.2 _ _ as6' b63
    have r4 := kp4.2 _ _ (f3.aside (Nat.le_refl _) (by omega)) r3
    have b04 := K4.get g0 (by omega)
    have b14 := K4.get g1 (by omega)
    have b34 := K4.get g3 (by omega)
    have w5r := w5 r hr
    (refine yg ?_)
    refine cond_p rfl (fun hlt2 => ?_) (fun hge => ?_)
    rotate_left 1
    · obtain rfl : i = (ll.getD 0 []).length := by omega
      rw [partW_all,partT_set hr] at o4
      (refine yg ?_)
      refine rounded_n r4 ⟨r,vs2,rfl,by omega,K4,o4,?_⟩
      have := fW (restRow ll bend isL (ll.length - 1 - r)) (restRow_len _)
      rwa [partT_set hr] at this
    have hi' : i < (ll.getD 0 []).length := by omega
    (repeat (first | refine yv ?_ | (apply yd; simp (disch:=first|exact zz|fail) only[go_sem,hrow4.len,hrow4.idx,hrow4.load,store_2nd (n := (i : Int)) rfl,store_2nd'];with_reducible rfl)))
    obtain ⟨val,hval⟩ : ∃ val,val = (ll.getD r []).getD i 0 := ⟨_,rfl⟩
    have hvb := val_bound w6 r i
    rw [← hval] at hvb
    rw [← hval]
    obtain ⟨H5,hH5⟩ : ∃ H5,H5 = H4 ++ [AObj.cells true 0 [.int .i64 (i : Int)]] ++ [AObj.cells true 0 [.int .i64 val]] := ⟨_,rfl⟩
    have x45 : Ext H4 H5 := by rw [hH5]; exact ((Ext.refl _).app _).app _
    have c8 : H5[H4.length]? = some (.cells true 0 [.int .i64 (i : Int)]) := by rw [hH5]; exact at_app at_new
    have c9 : H5[H4.length + 1]? = some (.cells true 0 [.int .i64 val]) := by rw [hH5]; simp
    have l5 : H5.length = H4.length + 2 := by rw [hH5]; simp
    have o5 : OwnR (H.length + 2) H5 ((partT ll bend isL (r + 1)).set r (partW ll bend isL (ll.length - 1 - r) i)) vs2 := by rw [hH5]; exact (o4.app _).app _
    (simp only [List.length_append,List.length_cons,List.length_nil,Nat.zero_add,Nat.add_assoc,Nat.reduceAdd])
    rw [← hH5]
    clear hH5
    have kp5 : Kp (Aside (H.length + 2) ((partT ll bend isL (r + 1)).set r (partW ll bend isL (ll.length - 1 - r) 0)) vs2) H3 H5 := by
      obtain ⟨N,rfl⟩ := x45; exact kp4.app N
    have x5 : Ext H H5 := x4.trans x45
    have hL5 := hL.ext x5
    (repeat(first|refine yw ?_|((first|apply yd|apply ye);simp (disch:=first|exact zz|fail) only[go_sem,load_at (x45.cell b64),loadN_at (x45.cell b04)];with_reducible rfl)))
    refine adraw_call (N := []) (firstD (last_c hL5 (by omega))) ?_
    rw [List.append_nil]
    (refine yg ?_)
    have hlw : ∀ m : Int,((partW ll bend isL (ll.length - 1 - r) i).set i m).length = (ll.getD 0 []).length := fun m => by rw [List.length_set,partW_len]
    refine cond_p rfl (fun hl => ?_) (fun hl => ?_)
    · have hk0 : ll.length - 1 - r = 0 := by omega
      have erest : restK ll bend isL 0 i = if isL i = true then val else 1000000 := by
        unfold restK vAt
        rw [show ll.length - 1 = r by omega,hval]
      (repeat(first|refine yw ?_|((first|apply yd|apply ye);simp (disch:=first|exact zz|fail) only[go_sem,load_at (x45.cell b14),load_at c8];with_reducible rfl)))
      refine aops_call ((hf H5 x5 i).mono fun v1 H6 ⟨e1,e2⟩ => ?_)
      subst e1
      subst e2
      rw [eL]
      cases hq : isL i with
      | true =>
        rw [hq,if_pos rfl] at erest
        have hg5 : ((partT ll bend isL (r + 1)).set r (partW ll bend isL (ll.length - 1 - r) i)).getD r [] = partW ll bend isL (ll.length - 1 - r) i := getD_set_eq (by omega)
        obtain ⟨H7,s7,o7,kp7⟩ := o5.setCell3 (i := r) (c := i) (by simp; omega) (by rw [hg5,partW_len]; exact hi') val
        have hLT5 := o5.lists (n := ll.length) (c := ll.length) (by simp; omega)
        have hTl5 : ((partT ll bend isL (r + 1)).set r (partW ll bend isL (ll.length - 1 - r) i)).length = ll.length := by simp; omega
        have hRr := hLT5.row (k := r) (by omega)
        rw [hg5] at hRr o7
        have hpl := partW_len (ll := ll) (bend := bend) (isL := isL) (ll.length - 1 - r) i
        refine yx ?_
        refine cond_t rfl ?_
        (repeat(first|refine yw ?_|((first|apply yd|apply ye);simp (disch:=first|exact zz|fail) only[go_sem,hLT5.len,hLT5.idx,hLT5.load,hRr.len,hRr.idx,hRr.load,load_at (x45.cell b34),load_at (x45.cell b64),load_at c8,load_at c9,s7];with_reducible rfl)))
        rw [List.set_set,hk0,← erest,partW_set hi'] at o7
        refine ⟨by omega,by simp [forget],kp5.trans (kp7.mono fun j _ h => aW _ _ j (partW_len _ _) (partW_len _ _) h),by rw [hk0]; exact o7⟩
      | false =>
        rw [hq,if_neg (by decide)] at erest
        refine yx ?_
        refine cond_f rfl ?_
        (refine yg ?_)
        refine ⟨by omega,by simp [forget],kp5,?_⟩
        rw [hk0,partW_same erest,← hk0]
        exact o5
    obtain ⟨k',hk'⟩ : ∃ k',ll.length - 1 - r = k' + 1 := ⟨ll.length - 2 - r,by omega⟩
    have er : ll.length - 2 - k' = r := by omega
    (repeat(first|refine yw ?_|((first|apply yd|apply ye);simp (disch:=first|exact zz|fail) only[go_sem,loadN_at (x45.cell b04),load_at c8];with_reducible rfl)))
    refine aops_call ((neighbors_c (c := (i : Int)) hL5).mono fun v1 H6 ⟨e1,e2⟩ => ?_)
    subst e1
    have n0 : H6[H5.length]? = some (.cells true 0 [v,.int .i64 bend]) := by rw [e2]; exact at_app at_new
    have n1 : H6[H5.length + 1]? = some (.cells true 0 [.int .i64 (i : Int)]) := by rw [e2]; simp
    have x56 : Ext H5 H6 := by rw [e2]; exact ((Ext.refl _).app _).app _
    have l6 : H6.length = H5.length + 2 := by rw [e2]; simp
    have o6 : OwnR (H.length + 2) H6 ((partT ll bend isL (r + 1)).set r (partW ll bend isL (ll.length - 1 - r) i)) vs2 := by rw [e2]; exact (o5.app _).app _
    clear e2
    have kp6 : Kp (Aside (H.length + 2) ((partT ll bend isL (r + 1)).set r (partW ll bend isL (ll.length - 1 - r) 0)) vs2) H3 H6 := by
      obtain ⟨N,rfl⟩ := x56; exact kp5.app N
    have K6 : Keeps (H.length + 2) H1 H6 := K4.trans (x45.trans x56)
    have b66 := x56.cell (x45.cell b64)
    have r6 := x56.cell (x45.cell r4)
    have as6W : Aside (H.length + 2) ((partT ll bend isL (r + 1)).set r (partW ll bend isL (ll.length - 1 - r) i)) vs2 H2.length := aW _ _ _ (partW_len _ _) (partW_len _ _) as6'
    have fWi := fW (partW ll bend isL (ll.length - 1 - r) i) (partW_len _ _)
    have low : ∀ {H' : AHeap},Kp (Aside (H.length + 2) ((partT ll bend isL (r + 1)).set r (partW ll bend isL (ll.length - 1 - r) i)) vs2) H6 H' → Keeps (H.length + 2) H1 H' := fun h => K6.kp h fun i hi hne => fWi.aside (by omega) hne
    have erest : restK ll bend isL (k' + 1) i = minGo (fun d => vAt ll (ll.length - 2 - k') i + bendI bend (i : Int) (d : Int) + restK ll bend isL k' d) 1000000 (nbL (ll.getD 0 []).length i) := rfl
    rw [er] at erest
    have ev : vAt ll r i = val := by rw [hval]; rfl
    rw [ev] at erest
    refine yx ?_
    refine awp_rangeA mo rfl (fun l h => by
        obtain rfl := Option.some.inj h
        obtain ⟨q,rfl⟩ := hRl
        exact ⟨q,r6⟩) (nb1_c (idc := H5.length + 1) (idt := H5.length) (c := i) (ll := ll) (vs := vs) (v := v) (bend := bend) w1 (by omega) hi')
      (fun rest H' => ∃ m tl,rest = nbV tl ∧ Kp (Aside (H.length + 2) ((partT ll bend isL (r + 1)).set r (partW ll bend isL (ll.length - 1 - r) i)) vs2) H6 H' ∧ OwnR (H.length + 2) H' ((partT ll bend isL (r + 1)).set r ((partW ll bend isL (ll.length - 1 - r) i).set i m)) vs2 ∧
        minGo (fun d => val + bendI bend (i : Int) (d : Int) + restK ll bend isL k' d) m tl = restK ll bend isL (k' + 1) i ∧ (0 ≤ m ∧ m ≤ 1000000) ∧ ∀ d ∈ tl,d < (ll.getD 0 []).length)
      (fun _ _ => False) ?_ (fun _ _ _ h => h.elim) ?_ ?_ ?_ ?_ (fun _ _ _ h => h.elim)
    · rintro rest H' c' ⟨m,tl,j1,j2,j3,j4⟩
      exact ⟨m,tl,j1,j2.set (.inr (Nat.le_refl _)) _,j3.set (aW _ _ _ (partW_len _ _) (hlw m) (o6.high (Nat.le_refl _))) _,j4⟩
    · rintro rest H' ⟨m,tl,j1,j2,j3,j4⟩
      exact ⟨j2.2 _ _ (o4.high (by omega)) n1,j2.2 _ _ (o4.high (by omega)) n0,hL.ext ((low j2).ext xG (by omega))⟩
    · intro N
      refine ⟨1000000,nbL (ll.getD 0 []).length i,rfl,(Kp.refl _ _).app _,?_,erest.symm,by omega,fun d hd => ((nbL_mem hi').1 hd).1⟩
      rw [partW_init hi']
      exact o6.app N
    · rintro a rest H7 ⟨m,tl,j1,j2,j3,j4,j5,j6⟩ hlt7
      match tl,j1 with
      | d :: tl,j1 =>
      obtain ⟨rfl,rfl⟩ := List.cons.inj j1
      refine ⟨rfl,fun R2 Rb2 _ hR2 => ?_⟩
      simp only [assignParams,List.zip_cons_cons,List.zip_nil_left,List.foldl_cons,List.foldl_nil]
      (refine yg ?_)
      refine ⟨rfl,hR2,?_⟩
      have hRb2 := get_set_self (d := Rb2) hR2
      have as7 := aW _ _ _ (partW_len _ _) (hlw m) (o6.high (Nat.le_refl _))
      have kp7 := j2.set (.inr (Nat.le_refl _)) Rb2
      have o7 := j3.set as7 Rb2
      generalize (H7.set H6.length Rb2 : AHeap) = Hb2 at hRb2 kp7 o7
      have K7 := low kp7
      have x7 : Ext H Hb2 := K7.ext xG (by omega)
      have hL7 := hL.ext x7
      have d0 := K7.get g0 (by omega)
      have d3 := K7.get g3 (by omega)
      have d6 := kp7.2 _ _ as6W b66
      have d8 := kp7.2 _ _ (o4.high (by omega)) (x56.cell c8)
      have d9 := kp7.2 _ _ (o4.high (by omega)) (x56.cell c9)
      have hdl := j6 d (by simp)
      have hbd := restK_bound (isL := isL) w6 hb k' d
      have bb := bendI_bound (a := (i : Int)) (b := (d : Int)) hb
      have hg7 : ((partT ll bend isL (r + 1)).set r ((partW ll bend isL (ll.length - 1 - r) i).set i m)).getD r [] = (partW ll bend isL (ll.length - 1 - r) i).set i m := getD_set_eq (by omega)
      have hn7 : ((partT ll bend isL (r + 1)).set r ((partW ll bend isL (ll.length - 1 - r) i).set i m)).getD (r + 1) [] = restRow ll bend isL k' := by
        rw [getD_set_ne (by omega),partT_getD (by omega) (Nat.le_refl _),show ll.length - 1 - (r + 1) = k' by omega]
      have hLT7 := o7.lists (n := ll.length) (c := ll.length) (by simp; omega)
      have hTl7 : ((partT ll bend isL (r + 1)).set r ((partW ll bend isL (ll.length - 1 - r) i).set i m)).length = ll.length := by simp; omega
      have hRr := hLT7.row (k := r) (by omega)
      have hRn := hLT7.row (k := r + 1) (by omega)
      obtain ⟨H8,s8,o8,kp8⟩ := o7.setCell3 (i := r) (c := i) (by omega) (by rw [hg7,hlw]; exact hi') (min m (val + bendI bend (i : Int) (d : Int) + restK ll bend isL k' d))
      rw [hg7] at hRr o8
      rw [hn7] at hRn
      have hm7 : ((partW ll bend isL (ll.length - 1 - r) i).set i m).getD i 0 = m := getD_set_eq (by rw [partW_len]; exact hi')
      have hlm := hlw m
      have hrl := restRow_len (ll := ll) (bend := bend) (isL := isL) k'
      have hn0 := restRow_getD (bend := bend) (isL := isL) (k := k') hdl
      (repeat(first|refine yw ?_|((first|apply yd|apply ye);simp (disch:=first|exact zz|fail) only[go_sem,hLT7.len,hLT7.idx,hLT7.load,hRr.len,hRr.idx,hRr.load,load_at d3,load_at d6,load_at d8,load_at d9,loadN_at d0,hm7];with_reducible rfl)))
      refine adraw_call (N := []) (firstD (bend_c hL7)) ?_
      rw [List.append_nil]
      have ern : ((r : Int) + 1).toNat = r + 1 := by omega
      (repeat(first|refine yw ?_|((first|apply yd|apply ye);simp (disch:=first|exact zz|fail) only[go_sem,hLT7.len,hLT7.idx,hLT7.load,hRr.len,hRr.idx,hRr.load,hRn.len,hRn.idx,hRn.load,load_at d3,load_at d6,load_at d8,load_at d9,loadN_at d0,hm7,hn0,s8,ern];with_reducible rfl)))
      rw [List.set_set,List.set_set] at o8
      refine rounded_n (kp8.2 _ _ as7 hRb2) ⟨_,tl,rfl,kp7.trans (kp8.mono fun j _ h => aW _ _ j (partW_len _ _) (hlw m) h),o8,j4,by omega,fun d hd => j6 d (by simp [hd])⟩
    · rintro H' ⟨m,tl,j1,j2,j3,j4,j5,j6⟩
      have : tl = [] := List.map_eq_nil_iff.1 j1.symm
      subst this
      have em : m = restK ll bend isL (ll.length - 1 - r) i := by rw [hk']; exact j4
      rw [em,partW_set hi'] at j3
      (refine yg ?_)
      exact ⟨by omega,by simp [forget],kp6.trans (j2.mono fun j _ h => aW _ _ j (partW_len _ _) (partW_len _ _) h),j3⟩
  · rintro H' ⟨r,vs',h1,h2,h3,h4,h5⟩
    obtain rfl : r = 0 := by
      cases r with
      | zero => rfl
      | succ r => exact absurd h1 (by simp [backV])
    (repeat(first|refine yw ?_|((first|apply yd|apply ye);simp (disch:=first|exact zz|fail) only[go_sem,load_at (h3.get g3 (by omega))];with_reducible rfl)))
    have := h4.ownL (H0 := H) (by omega) (by rw [partT_len]; exact w1) (fun i hi => by
      rw [partT_len] at hi
      rw [partT_getD hi (Nat.zero_le _),restRow_len]; exact w2)
    rw [partT_len,partT_zero] at this
    have fin : ∀ {x : Value},x = .slice (some ⟨H.length + 2,0,none⟩) ll.length ll.length → ∃ s,x = id s ∧ Ext H H' ∧ OwnL H H' (restTab ll bend isL) s := fun hx => ⟨_,hx,h3.ext xG (by omega),this⟩
    exact fin_1 (fin rfl)
end
end Go.Lq

namespace Go.Lq
open Go
open Go.Proofs
section
variable {ll : List (List Int)} {bend : Int} {isL : Nat → Bool}
theorem followL_cons (k c : Nat) : followL ll bend isL k c = (c : Int) :: (followL ll bend isL k c).tail := by
  cases k <;> rfl
theorem nextK_some {k c : Nat} (h : restK ll bend isL (k + 1) c < 1000000) :
    ∃ d,((nbL (ll.getD 0 []).length c).find? fun d : Nat => decide (vAt ll (ll.length - 2 - k) c + bendI bend (c : Int) (d : Int) + restK ll bend isL k d = restK ll bend isL (k + 1) c)) = some d ∧ nextK ll bend isL k c = d ∧ d ∈ nbL (ll.getD 0 []).length c ∧
      vAt ll (ll.length - 2 - k) c + bendI bend (c : Int) (d : Int) + restK ll bend isL k d = restK ll bend isL (k + 1) c := by
  obtain ⟨_,_,h3⟩ := minGo_spec (fun d => vAt ll (ll.length - 2 - k) c + bendI bend (c : Int) (d : Int) + restK ll bend isL k d) (nbL (ll.getD 0 []).length c) 1000000
  have e : restK ll bend isL (k + 1) c = minGo (fun d => vAt ll (ll.length - 2 - k) c + bendI bend (c : Int) (d : Int) + restK ll bend isL k d) 1000000 (nbL (ll.getD 0 []).length c) := rfl
  rw [← e] at h3
  rcases h3 with h3 | ⟨a,ha,h3⟩
  · omega
  have hsome : ((nbL (ll.getD 0 []).length c).find? fun d : Nat => decide (vAt ll (ll.length - 2 - k) c + bendI bend (c : Int) (d : Int) + restK ll bend isL k d = restK ll bend isL (k + 1) c)).isSome = true := by
    rw [List.find?_isSome]; exact ⟨a,ha,by simpa using h3⟩
  obtain ⟨x,hx⟩ := Option.isSome_iff_exists.1 hsome
  refine ⟨x,hx,?_,List.mem_of_find?_eq_some hx,by simpa using List.find?_some hx⟩
  unfold nextK
  rw [hx]; rfl
end
section
variable {H : AHeap}
set_option maxHeartbeats 2000000 in
theorem follow_c {ll : List (List Int)} {vs rs : List Value} {v tv : Value} {bend : Int} {isL : Nat → Bool} {c0 : Nat} (hL : Lists H ll vs v) (hT : Lists H (restTab ll bend isL) rs tv) (hg : gridErrL 40 12 ll = 0) (hb : 0 ≤ bend ∧ bend ≤ 1000)
    (hc : c0 < (ll.getD 0 []).length) (hr : restK ll bend isL (ll.length - 1) c0 < 1000000) :
    ACall Go.Proofs.Tryz.prog 40 [.agg ⟨[v,.int .i64 bend]⟩,tv,.int .i64 c0] H (IntsRet H (followL ll bend isL (ll.length - 1) c0)) := by
  refine ACall.ints ?_
  obtain ⟨w1,w2,w3,w4,w5,w6⟩ := gridErr_ok hg
  have hTl : (restTab ll bend isL).length = ll.length := by simp [restTab]
  have hTr : ∀ r,r < ll.length → (restTab ll bend isL).getD r [] = restRow ll bend isL (ll.length - 1 - r) := fun r hr => by
    rw [← partT_zero,partT_getD hr (Nat.zero_le _)]
  obtain ⟨ta,tn,tc,rfl⟩ : ∃ a n c,tv = .slice a n c := by
    rcases hT.1.2 with ⟨rfl,_⟩ | ⟨id,off,c,rfl,_⟩ <;> exact ⟨_,_,_,rfl⟩
  have hbt : ∀ {H' : AHeap},boxR (.slice ta tn tc) H' = some (.pointer (some ⟨H'.length,0,none⟩),H' ++ [.cells true 0 [.slice ta tn tc]]) := rfl
  (refine a40 ?_; simp only [n40,List.replicate,yq,yr,yt,yu]; first | refine q1 ?_ | refine q2 ?_ | refine q6 ?_ | refine q7 ?_ | refine qh rfl ?_ | skip)
  (repeat(first|refine yw ?_|((first|apply yd|apply ye);simp (disch:=first|exact zz|fail) only[go_sem,hL.box2,hbt,store_newS];with_reducible rfl)))
  (simp only [List.length_append,List.length_cons,List.length_nil,Nat.zero_add,Nat.add_assoc,Nat.reduceAdd])
  obtain ⟨G,hG⟩ : ∃ G,G = H ++ [AObj.cells true 0 [v,.int .i64 bend]] ++ [AObj.cells true 0 [.slice ta tn tc]] ++ [AObj.cells true 0 [.int .i64 (c0 : Int)]] ++ [AObj.cells true 1 [.int .i64 (c0 : Int)]] ++ [AObj.cells true 0 [.slice (some ⟨H.length + 3,0,none⟩) 1 1]] := ⟨_,rfl⟩
  have g0 : G[H.length]? = some (.cells true 0 [v,.int .i64 bend]) := by rw [hG]; exact at_app (at_app (at_app (at_app at_new)))
  have g1 : G[H.length + 1]? = some (.cells true 0 [.slice ta tn tc]) := by rw [hG]; refine at_app (at_app (at_app ?_)); simp
  have g2 : G[H.length + 2]? = some (.cells true 0 [.int .i64 (c0 : Int)]) := by rw [hG]; refine at_app (at_app ?_); simp
  have g3 : G[H.length + 3]? = some (.cells true 1 [.int .i64 (c0 : Int)]) := by rw [hG]; refine at_app ?_; simp
  have g4 : G[H.length + 4]? = some (.cells true 0 [.slice (some ⟨H.length + 3,0,none⟩) 1 1]) := by rw [hG]; simp
  have xG : Ext H G := by rw [hG]; exact (((((Ext.refl H).app _).app _).app _).app _).app _
  have lG : G.length = H.length + 5 := by rw [hG]; simp
  rw [← hG]
  clear hG
  have own0 : OwnI H G [(c0 : Int)] (.slice (some ⟨H.length + 3,0,none⟩) 1 1) := ⟨rfl,.inr ⟨H.length + 3,rfl,by omega,by simp,g3⟩⟩
  (repeat(first|refine yw ?_|((first|apply yd|apply ye);simp (disch:=first|exact zz|fail) only[go_sem,loadN_at g0];with_reducible rfl)))
  refine aops_call_to (last_c (hL.ext xG) (by omega)) ?_
  (refine yg ?_)
  have xk : ∀ {H' : AHeap},Kp (fun j => j ≠ H.length + 2 ∧ j ≠ H.length + 3 ∧ j ≠ H.length + 4) G H' → Ext H H' := fun h => ext_of_get (by have := h.1; omega) fun i hi => by
    have e := xG.get hi
    have hi2 : i < G.length := by omega
    rw [List.getElem?_eq_getElem hi2] at e
    rw [← e]
    exact h.2 i _ ⟨by omega,by omega,by omega⟩ (List.getElem?_eq_getElem hi2)
  refine awp_loop_n [false,false,false,true,true,true,false,true,false,false,false,false,false,true,true,false,false,false,false,false,false,false,false,false,false,false,false,false,false,false,false,false,false,false,false,false,false,false,false,false,false,false,false,false,false,false,false,false,false,false,false,false,false,false,false,false,false,false,false] (ll.length - 1) (fun i e H' => ∃ (c : Nat) (out : List Int) (v' : Value),e = [junk,junk,junk,.pointer (some ⟨H.length,0,none⟩),.pointer (some ⟨H.length + 1,0,none⟩),.pointer (some ⟨H.length + 2,0,none⟩),junk,.pointer (some ⟨H.length + 4,0,none⟩),junk,junk,junk,junk,junk,.int .i64 ((ll.length : Int) - 1),.int .i64 i,junk,junk,junk,junk,junk,junk,junk,junk,junk,junk,junk,junk,junk,junk,junk,junk,junk,junk,junk,junk,junk,junk,junk,junk,junk,junk,junk,junk,junk,junk,junk,junk,junk,junk,junk,junk,junk,junk,junk,junk,junk,junk,junk,junk] ∧
    Kp (fun j => j ≠ H.length + 2 ∧ j ≠ H.length + 3 ∧ j ≠ H.length + 4) G H' ∧ H'[H.length + 2]? = some (.cells true 0 [.int .i64 (c : Int)]) ∧ H'[H.length + 4]? = some (.cells true 0 [v']) ∧ OwnI H H' out v' ∧ (idOf v' = H.length + 3 ∨ H.length + 5 ≤ idOf v') ∧
    out ++ (followL ll bend isL (ll.length - 1 - i) c).tail = followL ll bend isL (ll.length - 1) c0 ∧ c < (ll.getD 0 []).length ∧ restK ll bend isL (ll.length - 1 - i) c < 1000000) ?_ ?_
  · exact ⟨c0,[(c0 : Int)],_,by simp [forget],Kp.refl _ _,g2,g4,own0,.inl rfl,(followL_cons _ _).symm,hc,hr⟩
  rintro i e H1 hi ⟨c,out,v',rfl,hk,hc2,hv4,ho,hid,hfol,hcw,hrc⟩
  have hol : out.length ≤ 40 := by
    have e := congrArg List.length hfol
    simp only [List.length_append,followL_len] at e; omega
  (refine yg ?_)
  refine cond_p rfl (fun hlt => ?_) (fun hge => ?_)
  rotate_left 1
  · obtain rfl : i = ll.length - 1 := by omega
    have ef : out = followL ll bend isL (ll.length - 1) c0 := by
      rw [Nat.sub_self] at hfol
      simpa [followL] using hfol
    (repeat(first|refine yw ?_|((first|apply yd|apply ye);simp (disch:=first|exact zz|fail) only[go_sem,load_at hv4];with_reducible rfl)))
    refine fin_1 ⟨xk hk,?_⟩
    rw [← ef]
    exact ho
  have hi' : i < ll.length - 1 := by omega
  obtain ⟨k',hk'⟩ : ∃ k',ll.length - 1 - i = k' + 1 := ⟨ll.length - 2 - i,by omega⟩
  have er : ll.length - 2 - k' = i := by omega
  have ek2 : ll.length - 1 - (i + 1) = k' := by omega
  rw [hk'] at hrc hfol
  obtain ⟨d0,hfind,hnx,hmem,heq⟩ := nextK_some (k := k') (c := c) hrc
  rw [er] at hfind heq
  have b0 : (H1 ++ [AObj.cells true 0 [.int .i64 (i : Int)]])[H.length]? = some (.cells true 0 [v,.int .i64 bend]) := at_app (hk.2 _ _ ⟨by omega,by omega,by omega⟩ g0)
  have b2 : (H1 ++ [AObj.cells true 0 [.int .i64 (i : Int)]])[H.length + 2]? = some (.cells true 0 [.int .i64 (c : Int)]) := at_app hc2
  (repeat(first|refine yw ?_|((first|apply yd|apply ye);simp (disch:=first|exact zz|fail) only[go_sem,loadN_at b0,load_at b2];with_reducible rfl)))
  refine aops_call ((neighbors_c (c := (c : Int)) (hL.ext ((xk hk).app _))).mono fun v1 H3 ⟨e1,e2⟩ => ?_)
  rw [show (H1 ++ [AObj.cells true 0 [.int .i64 (i : Int)]]).length = H1.length + 1 by simp] at e1
  subst e1
  have n8 : H3[H1.length]? = some (.cells true 0 [.int .i64 (i : Int)]) := by rw [e2]; exact at_app (at_app at_new)
  have n0 : H3[H1.length + 1]? = some (.cells true 0 [v,.int .i64 bend]) := by rw [e2]; refine at_app ?_; simp
  have n1 : H3[H1.length + 2]? = some (.cells true 0 [.int .i64 (c : Int)]) := by rw [e2]; simp
  have x13 : Ext H1 H3 := by rw [e2]; exact (((Ext.refl _).app _).app _).app _
  have l3 : H3.length = H1.length + 3 := by rw [e2]; simp
  clear e2 b0 b2
  have lk := hk.1
  (simp only [List.length_append,List.length_cons,List.length_nil,Nat.zero_add,Nat.add_assoc,Nat.reduceAdd])
  refine yx ?_
  refine awp_rangeA mo rfl (fun l h => by cases h) (nb1_c (idc := H1.length + 2) (idt := H1.length + 1) (c := c) (ll := ll) (vs := vs) (v := v) (bend := bend) w1 (by omega) hcw)
    (fun rest H' => ∃ tl,rest = nbV tl ∧ (tl.find? fun d : Nat => decide (vAt ll i c + bendI bend (c : Int) (d : Int) + restK ll bend isL k' d = restK ll bend isL (k' + 1) c)) = some d0 ∧ (∀ d ∈ tl,d < (ll.getD 0 []).length) ∧ Ext H3 H')
    (fun x H' => x = .exit 2 ∧ ∃ v'',Kp (fun j => j ≠ H.length + 2 ∧ j ≠ H.length + 3 ∧ j ≠ H.length + 4) G H' ∧ H'[H.length + 2]? = some (.cells true 0 [.int .i64 (d0 : Int)]) ∧ H'[H.length + 4]? = some (.cells true 0 [v'']) ∧ OwnI H H' (out ++ [(d0 : Int)]) v'' ∧ H3.length < idOf v'') ?_ ?_ ?_ ?_ ?_ ?_ ?_
  · rintro rest H' c' ⟨tl,j1,j2,j3,j4⟩
    exact ⟨tl,j1,j2,j3,j4.set (Nat.le_refl _) _⟩
  · rintro x H' c' ⟨rfl,v'',s1,s2,s3,s4,s5⟩
    exact ⟨rfl,v'',s1.set (.inr (by omega)) _,by rw [List.getElem?_set_ne (by omega)]; exact s2,by rw [List.getElem?_set_ne (by omega)]; exact s3,s4.set_ne (.inr (by omega)) _,s5⟩
  · rintro rest H' ⟨tl,j1,j2,j3,j4⟩
    exact ⟨j4.cell n1,j4.cell n0,hL.ext (((xk hk).trans x13).trans j4)⟩
  · intro N
    exact ⟨nbL (ll.getD 0 []).length c,rfl,hfind,fun d hd => ((nbL_mem hcw).1 hd).1,(Ext.refl _).app _⟩
  · rintro a rest H4 ⟨tl,j1,j2,j3,j4⟩ hlt4
    match tl,j1 with
    | d :: tl,j1 =>
    obtain ⟨rfl,rfl⟩ := List.cons.inj j1
    refine ⟨rfl,fun R Rb _ hR => ?_⟩
    simp only [assignParams,List.zip_cons_cons,List.zip_nil_left,List.foldl_cons,List.foldl_nil]
    (refine yg ?_)
    refine ⟨rfl,hR,?_⟩
    have hRb := get_set_self (d := Rb) hR
    have x4 := j4.set (Nat.le_refl _) Rb
    generalize (H4.set H3.length Rb : AHeap) = Hb at hRb x4
    have xb : Ext H1 Hb := x13.trans x4
    have kb : Kp (fun j => j ≠ H.length + 2 ∧ j ≠ H.length + 3 ∧ j ≠ H.length + 4) G Hb := by obtain ⟨N,rfl⟩ := xb; exact hk.app N
    have hob : OwnI H Hb out v' := by obtain ⟨N,rfl⟩ := xb; exact ho.app N
    have b0 := kb.2 _ _ ⟨by omega,by omega,by omega⟩ g0
    have b1 := kb.2 _ _ ⟨by omega,by omega,by omega⟩ g1
    have b2 := xb.cell hc2
    have b4 := xb.cell hv4
    have b8 := x4.cell n8
    have lb := x4.len
    have hLb := hL.ext (xk kb)
    have hTb := hT.ext (xk kb)
    have hil : i < ll.length := by omega
    have hrowb := hLb.row hil
    have hR0 := hTb.row (k := i) (by omega)
    have hR1 := hTb.row (k := i + 1) (by omega)
    rw [hTr i hil,hk'] at hR0
    rw [hTr (i + 1) (by omega),ek2] at hR1
    have hdl := j3 d (by simp)
    have w5i := w5 i hil
    have hvb := val_bound w6 i c
    have bb := bendI_bound (a := (c : Int)) (b := (d : Int)) hb
    have hbd := restK_bound (isL := isL) w6 hb k' d
    have hrl0 := restRow_len (ll := ll) (bend := bend) (isL := isL) k'
    have hrl1 := restRow_len (ll := ll) (bend := bend) (isL := isL) (k' + 1)
    have hn0 := restRow_getD (bend := bend) (isL := isL) (k := k') hdl
    have hn1 := restRow_getD (bend := bend) (isL := isL) (k := k' + 1) hcw
    have eri : ((i : Int) + 1).toNat = i + 1 := by omega
    (repeat(first|refine yw ?_|((first|apply yd|apply ye);simp (disch:=first|exact zz|fail) only[go_sem,hLb.len,hLb.idx,hLb.load,hrowb.len,hrowb.idx,hrowb.load,load_at b0,load_at b1,load_at b2,load_at b8,loadN_at b0];with_reducible rfl)))
    refine adraw_call (N := []) (firstD (bend_c hLb)) ?_
    rw [List.append_nil]
    (repeat(first|refine yw ?_|((first|apply yd|apply ye);simp (disch:=first|exact zz|fail) only[go_sem,hTb.len,hTb.idx,hTb.load,hR0.len,hR0.idx,hR0.load,hR1.len,hR1.idx,hR1.load,load_at b0,load_at b1,load_at b2,load_at b8,eri,hn0,hn1];with_reducible rfl)))
    refine cond_p rfl (fun heq2 => ?_) (fun hne2 => ?_)
    · have hd0 : d = d0 := by
        rw [List.find?_cons_of_pos (by simpa [vAt] using heq2)] at j2
        exact Option.some.inj j2
      subst hd0
      have hpush := hob.push (by omega) (d : Int)
      have hne4 : v' = .slice none 0 0 ∨ idOf v' ≠ H.length + 4 := .inr (by omega)
      have hne2' : v' = .slice none 0 0 ∨ idOf v' ≠ H.length + 2 := .inr (by omega)
      have hst := store_at1 (y := pushV Hb out.length) (pushH_at (x := (d : Int)) (l := out) b4 hne4) rfl rfl
      have hq2 : ((pushH Hb v' out (d : Int)).set (H.length + 4) (.cells true 0 [pushV Hb out.length]))[H.length + 2]? = some (.cells true 0 [.int .i64 (c : Int)]) := by
        rw [List.getElem?_set_ne (by omega)]; exact pushH_at b2 hne2'
      have hst2 := store_at1 (y := .int .i64 (d : Int)) hq2 rfl rfl
      (repeat(first|refine yw ?_|((first|apply yd|apply ye);simp (disch:=first|exact zz|fail) only[go_sem,load_at b4,hpush,hst,hst2];with_reducible rfl)))
      have hidR : v' = .slice none 0 0 ∨ idOf v' ≠ H3.length := hob.nil_or (by
        by_cases h0 : out.length = 0
        · exact .inl h0
        · exact .inr (by have := (ho.id_lt (by omega)).2; omega))
      have hkp : Kp (fun j => j ≠ H.length + 2 ∧ j ≠ H.length + 3 ∧ j ≠ H.length + 4) G (pushH Hb v' out (d : Int)) := ⟨by rw [pushH_len]; omega,fun j c ha hc => by
        have hj := (List.getElem?_eq_some_iff.1 hc).1
        exact pushH_at (kb.2 j c ha hc) (.inr (by omega))⟩
      have eid : idOf (pushV Hb out.length) = Hb.length + 1 := rfl
      refine rounded_x ?_ ⟨rfl,pushV Hb out.length,(hkp.set (.inl (by simp)) _).set (.inl (by simp)) _,get_set_self hq2,?_,?_,by omega⟩
      · rw [List.getElem?_set_ne (by omega),List.getElem?_set_ne (by omega)]
        exact pushH_at hRb hidR
      · rw [List.getElem?_set_ne (by omega)]
        exact get_set_self (pushH_at b4 hne4)
      · exact OwnI.set_ne (OwnI.set_ne (hob.pushed (xk kb) _) (.inr (by omega)) _) (.inr (by omega)) _
    · (refine yg ?_)
      refine rounded_n hRb ⟨tl,rfl,?_,fun d hd => j3 d (by simp [hd]),x4⟩
      rw [List.find?_cons_of_neg (by simpa [vAt] using hne2)] at j2
      exact j2
  · rintro H' ⟨tl,j1,j2,j3,j4⟩
    have : tl = [] := List.map_eq_nil_iff.1 j1.symm
    subst this
    exact absurd j2 (by simp)
  · rintro x H' hn ⟨rfl,v'',s1,s2,s3,s4,s5⟩
    (refine yg ?_)
    refine ⟨by omega,d0,out ++ [(d0 : Int)],v'',by simp [forget],s1,s2,s3,s4,.inr (by omega),?_,((nbL_mem hcw).1 hmem).1,?_⟩
    · rw [ek2,← hfol,List.append_assoc]
      show out ++ ([(d0 : Int)] ++ _) = out ++ followL ll bend isL k' (nextK ll bend isL k' c)
      rw [hnx,followL_cons k' d0]
      rfl
    · rw [ek2]
      have hvb := val_bound w6 i c
      have bb := bendI_bound (a := (c : Int)) (b := (d0 : Int)) hb
      simp only [vAt] at heq
      omega
end
end Go.Lq
