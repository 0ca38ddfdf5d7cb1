/- Towards ResampleStrings of seat YtejkpmemicpheabGreatDoor: it returns true for every input. Made out of the proof's own texts, merged. -/
import Derived.Shelf.Spec.SlicesGrow
import Derived.Shelf.Strings.OnBuilder
import Derived.Shelf.Strconv.Itoa3
import Derived.Shelf.Strconv.AtoiAll
import Derived.Shelf.Strings.Search3
import Derived.Shelf.Strings.Cut
import Derived.Shelf.Strings.Split
import Derived.Shelf.Strings.Prefix
import Derived.Shelf.LaysM
import Derived.Shelf.LaysC
import Derived.Test.YtejkpmemicpheabGreatDoorProg
import Derived.Lib.AppendIntMem
import Derived.Lib.AtoiErrMem
import Derived.KernelRfl
import Derived.LaidSub
import Derived.Test.YtejkpmemicpheabGreatDoorCards
import Derived.Test.YtejkpmemicpheabGreatDoorTie
import Derived.LaidMore
import Derived.HandedShaped
import Derived.Lib.LaidTab
import Derived.Lay
import Derived.Stop.Joined
import Derived.Lib.AtoiAllCases
import Derived.Lib.ItoaLen
import Derived.Test.YtejkpmemicpheabGreatDoorV41
set_option linter.unusedSimpArgs false
set_option linter.unnecessarySimpa false
set_option linter.unusedVariables false
set_option linter.unusedSectionVars false
set_option maxRecDepth 100000
namespace Go.Lq
open Go
open Go.Proofs
def eqvR (kind : Nat) (neg : Bool) (x y : Value) (H : AHeap) : Option (Value × AHeap) := (eqvA kind x y).map fun b => (.bool (neg != b),H)
theorem r_eqv {ρ : Operand → Value} {H : AHeap} {k : Nat} {neg : Bool} {x y : Operand} : ropRun (.eqv k neg x y) ρ H = eqvR k neg (ρ x) (ρ y) H := rfl
theorem eqv_slN {neg : Bool} {a : Addr} {n c : Nat} {H : AHeap} : eqvR 2 neg (.slice (some a) n c) (.slice none 0 0) H = some (.bool (neg != false),H) := rfl
theorem eqv_slNN {neg : Bool} {H : AHeap} : eqvR 2 neg (.slice none 0 0) (.slice none 0 0) H = some (.bool (neg != true),H) := rfl
attribute [go_sem] r_eqv eqv_slN eqv_slNN
section
variable {H : AHeap}
end
end Go.Lq

namespace Go.Lq
open Go
open Go.Proofs
section
variable {G : AHeap} {l : List Int} {n : Nat} {d : Int}
end
theorem store_c0 {H : AHeap} {id e : Nat} {x y z : Value} (h : H[id]? = some (.cells true e [x,z])) (ha : isAtom y = true) (hc : y.cells = ⟨[y]⟩) : storeR 1 (.pointer (some ⟨id,0,none⟩)) y H = some (undef,H.set id (.cells true e [y,z])) := by
  have e2 : ([y] : List Value).all isAtom = true := by simp [ha]
  have e3 : setCells [x,z] 0 [y] = [y,z] := rfl
  simp only [storeR,hc,List.size_toArray,storeAt,h,e2,e3,and_true,List.length_cons,List.length_nil]
  rfl
structure BoxD (k : Nat) (G : AHeap) (l : List Int) (v : Value) (d : Int) (H : AHeap) : Prop where
  keeps : Keeps k G H
  box : H[k]? = some (.cells true 0 [v,.int .i64 d])
  own : OwnI G H l v
theorem BoxD.push {k : Nat} {G H : AHeap} {l : List Int} {v : Value} {d : Int} (h : BoxD k G l v d H) (hk : k < G.length) (x : Int) :
    storeR 1 (.pointer (some ⟨k,0,none⟩)) (pushV H l.length) (pushH H v l x) = some (undef,(pushH H v l x).set k (.cells true 0 [pushV H l.length,.int .i64 d])) ∧
    BoxD k G (l ++ [x]) (pushV H l.length) d ((pushH H v l x).set k (.cells true 0 [pushV H l.length,.int .i64 d])) := by
  have b1 := pushH_at (l := l) (x := x) h.box (h.own.nil_or (h.own.aside hk))
  have hl := h.keeps.1
  refine ⟨store_c0 b1 rfl rfl,⟨(h.keeps.push h.own (Nat.le_refl _) x).set (.inl rfl) _,get_set_self b1,?_⟩⟩
  exact (h.own.pushedL hl x).set_ne (.inr (by show H.length + 1 ≠ k; omega)) _
section
variable {H : AHeap}
end
end Go.Lq

namespace Go.Lq
open Go
open Go.Proofs
section
variable {H : AHeap}
theorem swithin_c (n lo hi : Int) : ACall Go.Proofs.Tryz.prog 189 [.int .i64 n,.int .i64 lo,.int .i64 hi] H fun v H' => v = .bool (decide (lo ≤ n ∧ n ≤ hi)) ∧ H' = H := by
  (refine a189 ?_; simp only [n189,List.replicate,yq,yr,yt,yu]; first | refine q1 ?_ | refine q2 ?_ | refine q6 ?_ | refine q7 ?_ | refine qh rfl ?_ | skip)
  refine yx ?_; (refine aops_until (by simp (disch:=first|exact zz|fail) only[go_sem]; with_reducible rfl) ?_); refine yx ?_
  by_cases h : lo ≤ n
  · (refine aops_until (by simp (disch:=first|exact zz|fail) only[go_sem,h]; with_reducible rfl) ?_)
    refine yx ?_
    refine fin_1 ⟨?_,rfl⟩
    simp [h]
  · (refine aops_until (by simp (disch:=first|exact zz|fail) only[go_sem,h]; with_reducible rfl) ?_)
    refine yx ?_
    refine fin_1 ⟨?_,rfl⟩
    simp [h]
theorem sunless_c (b : Bool) (e : Int) : ACall Go.Proofs.Tryz.prog 159 [.bool b,.int .i64 e] H fun v H' => v = .int .i64 (if b then 0 else e) ∧ H' = H := by
  (refine a159 ?_; simp only [n159,List.replicate,yq,yr,yt,yu]; first | refine q1 ?_ | refine q2 ?_ | refine q6 ?_ | refine q7 ?_ | refine qh rfl ?_ | skip)
  refine yx ?_; (refine aops_until (by simp (disch:=first|exact zz|fail) only[go_sem]; with_reducible rfl) ?_); refine yx ?_; (refine aops_until (by simp (disch:=first|exact zz|fail) only[go_sem]; with_reducible rfl) ?_); refine yx ?_
  cases b with
  | true =>
    refine cond_t rfl ?_
    refine yx ?_; (refine aops_until (by simp (disch:=first|exact zz|fail) only[go_sem]; with_reducible rfl) ?_); refine yx ?_
    exact fin_1 ⟨rfl,rfl⟩
  | false =>
    refine cond_f rfl ?_
    refine yx ?_; (refine aops_until (by simp (disch:=first|exact zz|fail) only[go_sem]; with_reducible rfl) ?_); refine yx ?_
    exact fin_1 ⟨rfl,rfl⟩
theorem sfirst_c {l : List Int} {v : Value} (hl : Ints H l v) (hb : l.length ≤ 1000000) : ACall Go.Proofs.Tryz.prog 158 [v] H fun v H' => v = .int .i64 (firstErr l) ∧ H' = H := by
  (refine a158 ?_; simp only [n158,List.replicate,yq,yr,yt,yu]; first | refine q1 ?_ | refine q2 ?_ | refine q6 ?_ | refine q7 ?_ | refine qh rfl ?_ | skip)
  refine yx ?_; (refine aops_until (by simp (disch:=first|exact zz|fail) only[go_sem]; with_reducible rfl) ?_); refine yx ?_; (refine aops_until (by simp (disch:=first|exact zz|fail) only[go_sem,hl.len,hl.idx,hl.load]; with_reducible rfl) ?_); refine yx ?_
  refine awp_loop_n [true,false,true,false,false,true,true,true,false,false,false,false,false,false,false] l.length (fun i e H' => H' = H ∧ e = [v,junk,.int .i64 0,junk,junk,v,.int .i64 l.length,.int .i64 i,junk,junk,junk,junk,junk,junk,junk] ∧ ∀ j < i,l.getD j 0 = 0) ?_ ?_
  · exact ⟨rfl,rfl,by omega⟩
  · rintro i e H' hi ⟨rfl,rfl,hp⟩
    refine yx ?_; (refine aops_until (by simp (disch:=first|exact zz|fail) only[go_sem,hl.len,hl.idx,hl.load]; with_reducible rfl) ?_); refine yx ?_
    refine cond_p rfl (fun hlt => ?_) (fun hge => ?_)
    · refine yx ?_; (refine aops_until (by simp (disch:=first|exact zz|fail) only[go_sem,hl.len,hl.idx,hl.load]; with_reducible rfl) ?_); refine yx ?_; (refine aops_until (by simp (disch:=first|exact zz|fail) only[go_sem]; with_reducible rfl) ?_); refine yx ?_
      refine cond_p rfl (fun hne => ?_) (fun heq => ?_)
      · refine yx ?_; (refine aops_until (by simp (disch:=first|exact zz|fail) only[go_sem]; with_reducible rfl) ?_); refine yx ?_
        refine fin_1 ⟨?_,rfl⟩
        unfold firstErr
        rw [find_at (d := 0) (i := i) (by omega) (fun j hj => by simpa using hp j hj) (by simpa using hne)]
        rfl
      · refine yx ?_; (refine aops_until (by simp (disch:=first|exact zz|fail) only[go_sem]; with_reducible rfl) ?_); refine yx ?_
        refine ⟨by omega,rfl,?_,fun j hj => ?_⟩
        · simp [forget]
        · by_cases h : j = i
          · subst h; simpa using heq
          · exact hp j (by omega)
    · refine yx ?_; (refine aops_until (by simp (disch:=first|exact zz|fail) only[go_sem]; with_reducible rfl) ?_); refine yx ?_
      refine fin_1 ⟨?_,rfl⟩
      unfold firstErr
      rw [find_none (d := 0) (fun j hj => by simpa using hp j (by omega))]
      rfl
theorem isPosition_c (n : Int) : ACall Go.Proofs.Tryz.prog 160 [.int .i64 n] H fun v H' => v = .bool (decide (0 ≤ n ∧ n ≤ 1000000)) ∧ H' = H := by
  (refine a160 ?_; simp only [n160,List.replicate,yq,yr,yt,yu]; first | refine q1 ?_ | refine q2 ?_ | refine q6 ?_ | refine q7 ?_ | refine qh rfl ?_ | skip)
  (refine yg ?_)
  refine aops_call_to (swithin_c _ _ _) ?_
  (refine yg ?_)
  exact fin_1 ⟨rfl,rfl⟩
theorem isTime_c (n : Int) : ACall Go.Proofs.Tryz.prog 161 [.int .i64 n] H fun v H' => v = .bool (decide (0 ≤ n ∧ n ≤ 1000000000000)) ∧ H' = H := by
  (refine a161 ?_; simp only [n161,List.replicate,yq,yr,yt,yu]; first | refine q1 ?_ | refine q2 ?_ | refine q6 ?_ | refine q7 ?_ | refine qh rfl ?_ | skip)
  (refine yg ?_)
  refine aops_call_to (swithin_c _ _ _) ?_
  (refine yg ?_)
  exact fin_1 ⟨rfl,rfl⟩
theorem rIsPosition_c (n : Int) : ACall Go.Proofs.Tryz.prog 162 [.int .i64 n] H fun v H' => v = .bool (decide (0 ≤ n ∧ n ≤ 1000000)) ∧ H' = H := by
  (refine a162 ?_; simp only [n162,List.replicate,yq,yr,yt,yu]; first | refine q1 ?_ | refine q2 ?_ | refine q6 ?_ | refine q7 ?_ | refine qh rfl ?_ | skip)
  (refine yg ?_)
  refine aops_call_to (bwithin_c _ _ _) ?_
  (refine yg ?_)
  exact fin_1 ⟨rfl,rfl⟩
theorem rIsTick_c (n : Int) : ACall Go.Proofs.Tryz.prog 163 [.int .i64 n] H fun v H' => v = .bool (decide (0 ≤ n ∧ n ≤ 1000000000000)) ∧ H' = H := by
  (refine a163 ?_; simp only [n163,List.replicate,yq,yr,yt,yu]; first | refine q1 ?_ | refine q2 ?_ | refine q6 ?_ | refine q7 ?_ | refine qh rfl ?_ | skip)
  (refine yg ?_)
  refine aops_call_to (bwithin_c _ _ _) ?_
  (refine yg ?_)
  exact fin_1 ⟨rfl,rfl⟩
theorem Pairs.atom {l : List (Int × Int)} {v : Value} (h : Pairs H l v) : isAtom v = true := by
  rcases h.2 with ⟨rfl,_⟩ | ⟨id,off,c,rfl,_⟩ <;> rfl
theorem Pairs.box1 {l : List (Int × Int)} {v : Value} (h : Pairs H l v) {H' : AHeap} : boxR (.agg ⟨[v]⟩) H' = some (.pointer (some ⟨H'.length,0,none⟩),H' ++ [.cells true 0 [v]]) :=
  box_agg (by simp [h.atom])
theorem n1_at {G : AHeap} {id : Nat} {a : Value} (h : G[id]? = some (.cells true 0 [a])) : loadNR 1 (.pointer (some ⟨id,0,none⟩)) G = some (.agg ⟨[a]⟩,G) := loadN_at h (by simp)
theorem node_E {p n : Int × Int} : firstErr [(if decide ((0 ≤ n.1 ∧ n.1 ≤ 1000000) ∧ (0 ≤ n.2 ∧ n.2 ≤ 1000000000000)) = true then 0 else 2),(if decide (p.1 < n.1 ∧ p.2 < n.2) = true then 0 else 9)] = nodeE p n := by
  unfold nodeE
  simp only [decide_eq_true_eq]
set_option maxHeartbeats 4000000 in
theorem spCheckMap_c {l : List (Int × Int)} {v : Value} (hl : Pairs H l v) (hb : l.length ≤ 1000000000) : ACall Go.Proofs.Tryz.prog 122 [.agg ⟨[v]⟩] H fun w H' => w = .tuple #[.int .i64 (ckMap l).1,.int .i64 (ckMap l).2] ∧ H' = H := by
  refine ACall.drop (closed_two _ _) ?_
  (refine a122 ?_; simp only [n122,List.replicate,yq,yr,yt,yu]; first | refine q1 ?_ | refine q2 ?_ | refine q6 ?_ | refine q7 ?_ | refine qh rfl ?_ | skip)
  have g0 : (H ++ [AObj.cells true 0 [v]])[H.length]? = some (.cells true 0 [v]) := at_new
  have xG : Ext H (H ++ [AObj.cells true 0 [v]]) := (Ext.refl H).app _
  (repeat(first|refine yw ?_|((first|apply yd|apply ye);simp (disch:=first|exact zz|fail) only[go_sem,hl.box1];with_reducible rfl)))
  generalize (H ++ [AObj.cells true 0 [v]] : AHeap) = G at g0 xG
  have hl1 := hl.ext xG
  (repeat(first|refine yw ?_|((first|apply yd|apply ye);simp (disch:=first|exact zz|fail) only[go_sem,hl1.len,hl1.idx,hl1.load,load_at g0];with_reducible rfl)))
  refine adraw_call (N := []) (firstD (sunless_c _ _)) ?_
  rw [List.append_nil]
  (repeat(first|refine yw ?_|((first|apply yd|apply ye);simp (disch:=first|exact zz|fail) only[go_sem,hl1.len,hl1.idx,hl1.load,load_at g0];with_reducible rfl)))
  refine adraw_call (N := []) (firstD (sunless_c _ _)) ?_
  rw [List.append_nil]
  (refine yg ?_)
  refine adraw_call (N := []) (firstD (sfirst_c (l := [_,_]) (Ints.last (l := [_,_]) 2) (by simp))) ?_
  rw [List.append_nil]
  by_cases h2 : l.length < 2
  · have ec : ckMap l = (0,10) := by unfold ckMap; rw [if_pos h2]
    rw [ec]
    (repeat(first|refine yw ?_|((first|apply yd|apply ye);simp (disch:=first|exact zz|fail) only[go_sem,dec_f (show ¬ (2 : Int) ≤ (l.length : Int) by omega),ite_ft,firstErr_e (show (10 : Int) ≠ 0 by decide)];with_reducible rfl)))
    refine cond_t rfl ?_
    (refine yg ?_)
    exact fin_2 ⟨rfl,xG.app _⟩
  by_cases h20 : 20 < l.length
  · have ec : ckMap l = (0,8) := by unfold ckMap; rw [if_neg h2,if_pos h20]
    rw [ec]
    (repeat(first|refine yw ?_|((first|apply yd|apply ye);simp (disch:=first|exact zz|fail) only[go_sem,dec_t (show (2 : Int) ≤ (l.length : Int) by omega),dec_f (show ¬ (l.length : Int) ≤ 20 by omega),ite_tt,ite_ft,firstErr_z,firstErr_e (show (8 : Int) ≠ 0 by decide)];with_reducible rfl)))
    refine cond_t rfl ?_
    (refine yg ?_)
    exact fin_2 ⟨rfl,xG.app _⟩
  have ec : ckMap l = ckGo (-1,-1) 0 l := by unfold ckMap; rw [if_neg h2,if_neg h20]
  (repeat(first|refine yw ?_|((first|apply yd|apply ye);simp (disch:=first|exact zz|fail) only[go_sem,dec_t (show (2 : Int) ≤ (l.length : Int) by omega),dec_t (show (l.length : Int) ≤ 20 by omega),ite_tt,firstErr_z,firstErr_nil];with_reducible rfl)))
  refine cond_f rfl ?_
  have x2 : Ext G (G ++ [AObj.cells true 1 [.int .i64 0,.int .i64 0]]) := (Ext.refl G).app _
  generalize (G ++ [AObj.cells true 1 [.int .i64 0,.int .i64 0]] : AHeap) = G2 at x2
  have xH2 := xG.trans x2
  have hl2 := hl.ext xH2
  have k0 := at_app (N := [AObj.cells true 0 [.int .i64 (-1),.int .i64 (-1)]]) (x2.cell g0)
  have k5 : (G2 ++ [AObj.cells true 0 [.int .i64 (-1),.int .i64 (-1)]])[G2.length]? = some (.cells true 0 [.int .i64 (-1),.int .i64 (-1)]) := at_new
  have x3 : Ext G2 (G2 ++ [AObj.cells true 0 [.int .i64 (-1),.int .i64 (-1)]]) := (Ext.refl G2).app _
  have hl3 := hl2.ext x3
  (repeat(first|refine yw ?_|((first|apply yd|apply ye);simp (disch:=first|exact zz|fail) only[go_sem,hl3.len,hl3.idx,hl3.load,fill2i,store_new2,load_at k0];with_reducible rfl)))
  have l3 : (G2 ++ [AObj.cells true 0 [.int .i64 (-1),.int .i64 (-1)]]).length = G2.length + 1 := by simp
  generalize (G2 ++ [AObj.cells true 0 [.int .i64 (-1),.int .i64 (-1)]] : AHeap) = G3 at k0 k5 x3 hl3 l3
  refine awp_loop_n [false,true,false,false,false,true,false,false,false,false,false,false,false,false,false,false,false,false,false,false,false,false,false,false,false,false,true,true,true,false,false,false,false,false,false,false,false,false,false,false,false,false,false,false,false,false,false,false,false,false,false,false,false,false,false,false,false,false,false,false,false,false,false] l.length (fun i e H' => e = [junk,.pointer (some ⟨H.length,0,none⟩),junk,junk,junk,.pointer (some ⟨G2.length,0,none⟩),junk,junk,junk,junk,junk,junk,junk,junk,junk,junk,junk,junk,junk,junk,junk,junk,junk,junk,junk,junk,v,.int .i64 (l.length : Nat),.int .i64 i,junk,junk,junk,junk,junk,junk,junk,junk,junk,junk,junk,junk,junk,junk,junk,junk,junk,junk,junk,junk,junk,junk,junk,junk,junk,junk,junk,junk,junk,junk,junk,junk,junk,junk] ∧ Keeps G2.length G3 H' ∧ H'[G2.length]? = some (.cells true 0 [.int .i64 (prevAt l i).1,.int .i64 (prevAt l i).2]) ∧ ∀ j,j < i → nodeE (prevAt l j) (l.getD j (0,0)) = 0) ?_ ?_
  · exact ⟨by simp [forget],Keeps.of_ext (Ext.refl _),k5,fun j hj => by omega⟩
  rintro i e H' hi ⟨rfl,hK,b5,hj⟩
  have xK := hK.ext x3 (Nat.le_refl _)
  have xK2 := xH2.trans xK
  have hll := hl.ext xK2
  have ec2 := ckGo_from hj hi
  rw [← ec] at ec2
  (refine yg ?_)
  refine cond_p rfl (fun hlt => ?_) (fun hge => ?_)
  rotate_left 1
  · obtain rfl : i = l.length := by omega
    rw [ckGo_end] at ec2
    (refine yg ?_)
    exact fin_2 ⟨by rw [ec2]; rfl,xK2⟩
  have hi' : i < l.length := by omega
  have e1 : (G2 ++ ([] : AHeap)).length = G2.length := by simp
  (repeat (first | refine yv ?_ | (apply yd; simp (disch:=first|exact zz|fail) only[go_sem,hll.len,hll.idx,hll.load,store_new2];with_reducible rfl)))
  have b7 : (H' ++ [AObj.cells true 0 [.int .i64 (l.getD i (0,0)).1,.int .i64 (l.getD i (0,0)).2]])[H'.length]? = some (.cells true 0 [.int .i64 (l.getD i (0,0)).1,.int .i64 (l.getD i (0,0)).2]) := at_new
  have b5 := at_app (N := [AObj.cells true 0 [.int .i64 (l.getD i (0,0)).1,.int .i64 (l.getD i (0,0)).2]]) b5
  have hK := hK.app [AObj.cells true 0 [.int .i64 (l.getD i (0,0)).1,.int .i64 (l.getD i (0,0)).2]]
  have xK2 := xK2.app [AObj.cells true 0 [.int .i64 (l.getD i (0,0)).1,.int .i64 (l.getD i (0,0)).2]]
  have l7 := hK.1
  generalize (H' ++ [AObj.cells true 0 [.int .i64 (l.getD i (0,0)).1,.int .i64 (l.getD i (0,0)).2]] : AHeap) = H1 at b7 b5 hK xK2 l7
  refine awp_mid [false,true,false,false,false,true,true,true,true,false,false,false,false,false,false,false,false,false,false,false,false,false,false,false,false,false,true,true,true,false,false,false,false,false,false,false,false,false,false,false,false,false,false,false,false,false,false,false,false,false,false,false,false,false,false,false,false,false,false,false,false,false,false] (fun e J => (∃ N,J = H1 ++ N) ∧ e = [junk,.pointer (some ⟨H.length,0,none⟩),junk,junk,junk,.pointer (some ⟨G2.length,0,none⟩),.int .i64 i,.pointer (some ⟨H'.length,0,none⟩),.int .i64 (nodeE (prevAt l i) (l.getD i (0,0))),junk,junk,junk,junk,junk,junk,junk,junk,junk,junk,junk,junk,junk,junk,junk,junk,junk,v,.int .i64 (l.length : Nat),.int .i64 i,junk,junk,junk,junk,junk,junk,junk,junk,junk,junk,junk,junk,junk,junk,junk,junk,junk,junk,junk,junk,junk,junk,junk,junk,junk,junk,junk,junk,junk,junk,junk,junk,junk,junk]) ?_ ?_
  · generalize l.getD i (0,0) = n at *
    generalize prevAt l i = p at *
    (repeat(first|refine yw ?_|((first|apply yd|apply ye);simp (disch:=first|exact zz|fail) only[go_sem,load_at b7];with_reducible rfl)))
    refine adraw_call (N := []) (firstD (isPosition_c _)) ?_
    rw [List.append_nil]
    by_cases hp : 0 ≤ n.1 ∧ n.1 ≤ 1000000
    · (repeat(first|refine yw ?_|((first|apply yd|apply ye);simp (disch:=first|exact zz|fail) only[go_sem,dec_t hp,load_at b7];with_reducible rfl)))
      refine adraw_call (N := []) (firstD (isTime_c _)) ?_
      rw [List.append_nil]
      (repeat(first|refine yw ?_|((first|apply yd|apply ye);simp (disch:=first|exact zz|fail) only[go_sem,dec_t hp];with_reducible rfl)))
      refine adraw_call (N := []) (firstD (sunless_c _ _)) ?_
      rw [List.append_nil]
      by_cases hq : p.1 < n.1
      · (repeat(first|refine yw ?_|((first|apply yd|apply ye);simp (disch:=first|exact zz|fail) only[go_sem,load_at b7,load_at b5,dec_t hq];with_reducible rfl)))
        refine adraw_call (N := []) (firstD (sunless_c _ _)) ?_
        rw [List.append_nil]
        (repeat(first|refine yw ?_|((first|apply yd|apply ye);simp (disch:=first|exact zz|fail) only[go_sem,dec_t hq];with_reducible rfl)))
        refine adraw_call (N := []) (firstD (sfirst_c (l := [_,_]) (Ints.last (l := [_,_]) 2) (by simp))) ?_
        rw [List.append_nil]
        (refine yg ?_)
        refine ⟨rfl,⟨_,rfl⟩,?_⟩
        first | (simp [forget,← node_E,hp,hq]; done) | simp [forget,← node_E,hp,hq,firstErr]
      · (repeat(first|refine yw ?_|((first|apply yd|apply ye);simp (disch:=first|exact zz|fail) only[go_sem,load_at b7,load_at b5,dec_f hq];with_reducible rfl)))
        refine adraw_call (N := []) (firstD (sunless_c _ _)) ?_
        rw [List.append_nil]
        (repeat(first|refine yw ?_|((first|apply yd|apply ye);simp (disch:=first|exact zz|fail) only[go_sem,dec_f hq];with_reducible rfl)))
        refine adraw_call (N := []) (firstD (sfirst_c (l := [_,_]) (Ints.last (l := [_,_]) 2) (by simp))) ?_
        rw [List.append_nil]
        (refine yg ?_)
        refine ⟨rfl,⟨_,rfl⟩,?_⟩
        first | (simp [forget,← node_E,hp,hq]; done) | simp [forget,← node_E,hp,hq,firstErr]
    · (repeat(first|refine yw ?_|((first|apply yd|apply ye);simp (disch:=first|exact zz|fail) only[go_sem,dec_f hp];with_reducible rfl)))
      refine adraw_call (N := []) (firstD (sunless_c _ _)) ?_
      rw [List.append_nil]
      by_cases hq : p.1 < n.1
      · (repeat(first|refine yw ?_|((first|apply yd|apply ye);simp (disch:=first|exact zz|fail) only[go_sem,load_at b7,load_at b5,dec_t hq];with_reducible rfl)))
        refine adraw_call (N := []) (firstD (sunless_c _ _)) ?_
        rw [List.append_nil]
        (repeat(first|refine yw ?_|((first|apply yd|apply ye);simp (disch:=first|exact zz|fail) only[go_sem,dec_t hq];with_reducible rfl)))
        refine adraw_call (N := []) (firstD (sfirst_c (l := [_,_]) (Ints.last (l := [_,_]) 2) (by simp))) ?_
        rw [List.append_nil]
        (refine yg ?_)
        refine ⟨rfl,⟨_,rfl⟩,?_⟩
        first | (simp [forget,← node_E,hp,hq]; done) | simp [forget,← node_E,hp,hq,firstErr]
      · (repeat(first|refine yw ?_|((first|apply yd|apply ye);simp (disch:=first|exact zz|fail) only[go_sem,load_at b7,load_at b5,dec_f hq];with_reducible rfl)))
        refine adraw_call (N := []) (firstD (sunless_c _ _)) ?_
        rw [List.append_nil]
        (repeat(first|refine yw ?_|((first|apply yd|apply ye);simp (disch:=first|exact zz|fail) only[go_sem,dec_f hq];with_reducible rfl)))
        refine adraw_call (N := []) (firstD (sfirst_c (l := [_,_]) (Ints.last (l := [_,_]) 2) (by simp))) ?_
        rw [List.append_nil]
        (refine yg ?_)
        refine ⟨rfl,⟨_,rfl⟩,?_⟩
        first | (simp [forget,← node_E,hp,hq]; done) | simp [forget,← node_E,hp,hq,firstErr]
  rintro e J ⟨⟨N,rfl⟩,rfl⟩
  have b7 := at_app (N := N) b7
  have b5 := at_app (N := N) b5
  have hK := hK.app N
  have xK2 := xK2.app N
  by_cases he : nodeE (prevAt l i) (l.getD i (0,0)) = 0
  · (repeat(first|refine yw ?_|((first|apply yd|apply ye);simp (disch:=first|exact zz|fail) only[go_sem,dec_f (show ¬ nodeE (prevAt l i) (l.getD i (0,0)) ≠ 0 by rw [he]; simp)];with_reducible rfl)))
    refine cond_f rfl ?_
    (repeat(first|refine yw ?_|((first|apply yd|apply ye);simp (disch:=first|exact zz|fail) only[go_sem,n2_at b7,store_b2 b5];with_reducible rfl)))
    refine ⟨by omega,by simp [forget],hK.set (.inl rfl) _,?_,fun j hj2 => ?_⟩
    · rw [prevAt_succ]; exact get_set_self b5
    · by_cases e : j = i
      · subst e; exact he
      · exact hj j (by omega)
  · rw [ckGo_at hi',if_pos he] at ec2
    (repeat(first|refine yw ?_|((first|apply yd|apply ye);simp (disch:=first|exact zz|fail) only[go_sem,dec_t (show nodeE (prevAt l i) (l.getD i (0,0)) ≠ 0 from he)];with_reducible rfl)))
    refine cond_t rfl ?_
    (refine yg ?_)
    exact fin_2 ⟨by rw [ec2]; rfl,xK2⟩
end
end Go.Lq

namespace Go.Lq
open Go
open Go.Proofs
section
variable {H : AHeap}
set_option maxHeartbeats 4000000 in
theorem spMapErr_c {l : List (Int × Int)} {s v : Value} (hv : Sl H 1 1 [s] v) (hl : Pairs H l s) (hb : l.length ≤ 1000000000) : ACall Go.Proofs.Tryz.prog 120 [v] H fun w H' => w = .int .i64 (mapErrL l) ∧ H' = H := by
  refine ACall.drop (.int _ _) ?_
  (refine a120 ?_; simp only [n120,List.replicate,yq,yr,yt,yu]; first | refine q1 ?_ | refine q2 ?_ | refine q6 ?_ | refine q7 ?_ | refine qh rfl ?_ | skip)
  (repeat(first|refine yw ?_|((first|apply yd|apply ye);simp (disch:=first|exact zz|fail) only[go_sem,hv.len];with_reducible rfl)))
  refine awp_loop_n [false,false,false,false,false,false,false,true,true,true,false,false,false,false,false,false,false,false,false,false,false,false] 1 (fun i e H' => Ext H H' ∧ (i = 1 → mapErrL l = 0) ∧ e = [junk,junk,junk,junk,junk,junk,junk,v,.int .i64 ((1 : Nat) : Int),.int .i64 i,junk,junk,junk,junk,junk,junk,junk,junk,junk,junk,junk,junk]) ?_ ?_
  · exact ⟨Ext.refl _,fun h => by omega,by simp [forget]⟩
  rintro i e H' hi ⟨x1,hz,rfl⟩
  (refine yg ?_)
  refine cond_p rfl (fun hlt => ?_) (fun hge => ?_)
  rotate_left 1
  · obtain rfl : i = 1 := by omega
    (refine yg ?_)
    exact fin_1 ⟨by rw [hz rfl]; rfl,x1⟩
  obtain rfl : i = 0 := by omega
  have h1 : ∀ J : AHeap,idxR 1 v (.int .i64 ((0 : Nat) : Int)) J = some (addrOf v 0,J) := fun J => by
    have := hv.idx (i := 0) (k := .i64) (H' := J) (by omega) (by omega)
    simpa using this
  have h2 : loadNR 1 (addrOf v 0) H' = some (.agg ⟨[s]⟩,H') := by
    have := Sl.loadN (k := 0) (m := 1) hv x1 (by omega) (by omega)
    simpa using this
  have hst : storeR 1 (.pointer (some ⟨H'.length,0,none⟩)) (.agg ⟨[s]⟩) (H' ++ [AObj.cells true 0 [.slice none 0 0]]) = some (undef,H' ++ [AObj.cells true 0 [s]]) := store_newN (by simp [hl.atom]) rfl rfl
  have b4 : (H' ++ [AObj.cells true 0 [s]])[H'.length]? = some (.cells true 0 [s]) := at_new
  have x2 := x1.app [AObj.cells true 0 [s]]
  (repeat(first|refine yw ?_|((first|apply yd|apply ye);simp (disch:=first|exact zz|fail) only[go_sem,h1,h2,hst,n1_at b4];with_reducible rfl)))
  refine aops_call_to (spCheckMap_c (hl.ext x2) hb) ?_
  (refine yg ?_)
  refine cond_p rfl (fun hne => ?_) (fun heq => ?_)
  · (refine yg ?_)
    exact fin_1 ⟨rfl,x2⟩
  · (refine yg ?_)
    exact ⟨by omega,x2,fun _ => Decidable.not_not.1 heq,by simp [forget]⟩
set_option maxHeartbeats 4000000 in
theorem rCheckMap_c {l : List (Int × Int)} {v : Value} (hl : Pairs H l v) (hb : l.length ≤ 1000000000) : ACall Go.Proofs.Tryz.prog 127 [.agg ⟨[v]⟩] H fun w H' => w = .tuple #[.int .i64 (ckMap l).1,.int .i64 (ckMap l).2] ∧ H' = H := by
  refine ACall.drop (closed_two _ _) ?_
  (refine a127 ?_; simp only [n127,List.replicate,yq,yr,yt,yu]; first | refine q1 ?_ | refine q2 ?_ | refine q6 ?_ | refine q7 ?_ | refine qh rfl ?_ | skip)
  have g0 : (H ++ [AObj.cells true 0 [v]])[H.length]? = some (.cells true 0 [v]) := at_new
  have xG : Ext H (H ++ [AObj.cells true 0 [v]]) := (Ext.refl H).app _
  (repeat(first|refine yw ?_|((first|apply yd|apply ye);simp (disch:=first|exact zz|fail) only[go_sem,hl.box1];with_reducible rfl)))
  generalize (H ++ [AObj.cells true 0 [v]] : AHeap) = G at g0 xG
  have hl1 := hl.ext xG
  by_cases h2 : l.length < 2
  · have ec : ckMap l = (0,10) := by unfold ckMap; rw [if_pos h2]
    rw [ec]
    (repeat(first|refine yw ?_|((first|apply yd|apply ye);simp (disch:=first|exact zz|fail) only[go_sem,hl1.len,hl1.idx,hl1.load,load_at g0,dec_t (show (l.length : Int) < 2 by omega)];with_reducible rfl)))
    refine cond_t rfl ?_
    (refine yg ?_)
    exact fin_2 ⟨rfl,xG⟩
  (repeat(first|refine yw ?_|((first|apply yd|apply ye);simp (disch:=first|exact zz|fail) only[go_sem,hl1.len,hl1.idx,hl1.load,load_at g0,dec_f (show ¬ (l.length : Int) < 2 by omega)];with_reducible rfl)))
  refine cond_f rfl ?_
  by_cases h20 : 20 < l.length
  · have ec : ckMap l = (0,8) := by unfold ckMap; rw [if_neg h2,if_pos h20]
    rw [ec]
    (repeat(first|refine yw ?_|((first|apply yd|apply ye);simp (disch:=first|exact zz|fail) only[go_sem,hl1.len,hl1.idx,hl1.load,load_at g0,dec_t (show (20 : Int) < (l.length : Int) by omega)];with_reducible rfl)))
    refine cond_t rfl ?_
    (refine yg ?_)
    exact fin_2 ⟨rfl,xG⟩
  have ec : ckMap l = ckGo (-1,-1) 0 l := by unfold ckMap; rw [if_neg h2,if_neg h20]
  (repeat(first|refine yw ?_|((first|apply yd|apply ye);simp (disch:=first|exact zz|fail) only[go_sem,hl1.len,hl1.idx,hl1.load,load_at g0,dec_f (show ¬ (20 : Int) < (l.length : Int) by omega)];with_reducible rfl)))
  refine cond_f rfl ?_
  (refine yg ?_)
  refine awp_loop_n [false,true,false,false,true,false,false,false,false,false,false,false,false,false,false,false,false,false,false,false,false,false,false,false,false,false,false,false,false,false,false,false,false,false,false,false,false,false,false,false,false,false,false,false,false,false,false,false,false,false,false,false,false,false,false,false,false,false,false,false,false,false,false,false] l.length (fun i e H' => Ext G H' ∧ e = [junk,.pointer (some ⟨H.length,0,none⟩),junk,junk,.int .i64 i,junk,junk,junk,junk,junk,junk,junk,junk,junk,junk,junk,junk,junk,junk,junk,junk,junk,junk,junk,junk,junk,junk,junk,junk,junk,junk,junk,junk,junk,junk,junk,junk,junk,junk,junk,junk,junk,junk,junk,junk,junk,junk,junk,junk,junk,junk,junk,junk,junk,junk,junk,junk,junk,junk,junk,junk,junk,junk,junk] ∧ ∀ j,j < i → nodeE (prevAt l j) (l.getD j (0,0)) = 0) ?_ ?_
  · exact ⟨Ext.refl _,by simp [forget],fun j hj => by omega⟩
  rintro i e H' hi ⟨x1,rfl,hj⟩
  have xK2 := xG.trans x1
  have hll := hl.ext xK2
  have b0 := x1.cell g0
  have ec2 := ckGo_from hj hi
  rw [← ec] at ec2
  (repeat(first|refine yw ?_|((first|apply yd|apply ye);simp (disch:=first|exact zz|fail) only[go_sem,hll.len,hll.idx,hll.load,load_at b0];with_reducible rfl)))
  refine cond_p rfl (fun hlt => ?_) (fun hge => ?_)
  rotate_left 1
  · obtain rfl : i = l.length := by omega
    rw [ckGo_end] at ec2
    (refine yg ?_)
    exact fin_2 ⟨by rw [ec2]; rfl,xK2⟩
  have hi' : i < l.length := by omega
  rw [ckGo_at hi'] at ec2
  have b7 : (H' ++ [AObj.cells true 0 [.int .i64 (l.getD i (0,0)).1,.int .i64 (l.getD i (0,0)).2]])[H'.length]? = some (.cells true 0 [.int .i64 (l.getD i (0,0)).1,.int .i64 (l.getD i (0,0)).2]) := at_new
  have b0' := at_app (N := [AObj.cells true 0 [.int .i64 (l.getD i (0,0)).1,.int .i64 (l.getD i (0,0)).2]]) b0
  have x1' := x1.app [AObj.cells true 0 [.int .i64 (l.getD i (0,0)).1,.int .i64 (l.getD i (0,0)).2]]
  have xK3 := xG.trans x1'
  have hl3 := hl.ext xK3
  (repeat(first|refine yw ?_|((first|apply yd|apply ye);simp (disch:=first|exact zz|fail) only[go_sem,hll.len,hll.idx,hll.load,load_at b0,store_new2,load_at b7];with_reducible rfl)))
  generalize (H' ++ [AObj.cells true 0 [.int .i64 (l.getD i (0,0)).1,.int .i64 (l.getD i (0,0)).2]] : AHeap) = H1 at b7 b0' x1' xK3 hl3
  refine aops_call_to (rIsPosition_c _) ?_
  by_cases hp : 0 ≤ (l.getD i (0,0)).1 ∧ (l.getD i (0,0)).1 ≤ 1000000
  rotate_left 1
  · rw [nodeE_r (fun h => hp h.1),if_pos (by decide)] at ec2
    (repeat(first|refine yw ?_|((first|apply yd|apply ye);simp (disch:=first|exact zz|fail) only[go_sem,dec_f hp];with_reducible rfl)))
    refine cond_t rfl ?_
    (refine yg ?_)
    exact fin_2 ⟨by rw [ec2]; rfl,xK3⟩
  (repeat(first|refine yw ?_|((first|apply yd|apply ye);simp (disch:=first|exact zz|fail) only[go_sem,dec_t hp,load_at b7];with_reducible rfl)))
  refine aops_call_to (rIsTick_c _) ?_
  by_cases ht : 0 ≤ (l.getD i (0,0)).2 ∧ (l.getD i (0,0)).2 ≤ 1000000000000
  rotate_left 1
  · rw [nodeE_r (fun h => ht h.2),if_pos (by decide)] at ec2
    (repeat(first|refine yw ?_|((first|apply yd|apply ye);simp (disch:=first|exact zz|fail) only[go_sem,dec_t hp,dec_f ht];with_reducible rfl)))
    refine cond_t rfl ?_
    (refine yg ?_)
    exact fin_2 ⟨by rw [ec2]; rfl,xK3⟩
  (repeat(first|refine yw ?_|((first|apply yd|apply ye);simp (disch:=first|exact zz|fail) only[go_sem,dec_t hp,dec_t ht];with_reducible rfl)))
  refine cond_f rfl ?_
  have next : nodeE (prevAt l i) (l.getD i (0,0)) = 0 → ∀ j,j < i + 1 → nodeE (prevAt l j) (l.getD j (0,0)) = 0 := fun he j hj2 => by
    by_cases e : j = i
    · subst e; exact he
    · exact hj j (by omega)
  by_cases h0 : i = 0
  · subst h0
    have hz : nodeE (prevAt l 0) (l.getD 0 (0,0)) = 0 := nodeE_z ⟨hp,ht⟩ ⟨show (-1 : Int) < _ by omega,show (-1 : Int) < _ by omega⟩
    (repeat(first|refine yw ?_|((first|apply yd|apply ye);simp (disch:=first|exact zz|fail) only[go_sem,dec_f (show ¬ (0 : Int) < ((0 : Nat) : Int) by decide)];with_reducible rfl)))
    refine cond_f rfl ?_
    (refine yg ?_)
    exact ⟨by omega,x1',by simp [forget],next hz⟩
  have hpr : prevAt l i = l.getD (i - 1) (0,0) := by unfold prevAt; rw [if_neg h0]
  rw [hpr] at ec2 next
  have ei : ((i : Int) - 1).toNat = i - 1 := by omega
  by_cases hq : (l.getD i (0,0)).1 ≤ (l.getD (i - 1) (0,0)).1
  · rw [nodeE_o ⟨hp,ht⟩ (fun h => by omega),if_pos (by decide)] at ec2
    (repeat(first|refine yw ?_|((first|apply yd|apply ye);simp (disch:=first|exact zz|fail) only[go_sem,hl3.len,hl3.idx,hl3.load,dec_t (show (0 : Int) < (i : Int) by omega),load_at b7,load_at b0',ei,dec_t hq];with_reducible rfl)))
    refine cond_t rfl ?_
    (refine yg ?_)
    exact fin_2 ⟨by rw [ec2]; rfl,xK3⟩
  by_cases hr : (l.getD i (0,0)).2 ≤ (l.getD (i - 1) (0,0)).2
  · rw [nodeE_o ⟨hp,ht⟩ (fun h => by omega),if_pos (by decide)] at ec2
    (repeat(first|refine yw ?_|((first|apply yd|apply ye);simp (disch:=first|exact zz|fail) only[go_sem,hl3.len,hl3.idx,hl3.load,dec_t (show (0 : Int) < (i : Int) by omega),load_at b7,load_at b0',ei,dec_f hq,dec_t hr];with_reducible rfl)))
    refine cond_t rfl ?_
    (refine yg ?_)
    exact fin_2 ⟨by rw [ec2]; rfl,xK3⟩
  (repeat(first|refine yw ?_|((first|apply yd|apply ye);simp (disch:=first|exact zz|fail) only[go_sem,hl3.len,hl3.idx,hl3.load,dec_t (show (0 : Int) < (i : Int) by omega),load_at b7,load_at b0',ei,dec_f hq,dec_f hr];with_reducible rfl)))
  refine cond_f rfl ?_
  (refine yg ?_)
  exact ⟨by omega,x1',by simp [forget],next (nodeE_z ⟨hp,ht⟩ ⟨by omega,by omega⟩)⟩
theorem rMapErr_c {l : List (Int × Int)} {v : Value} (hl : Pairs H l v) (hb : l.length ≤ 1000000000) : ACall Go.Proofs.Tryz.prog 73 [.agg ⟨[v]⟩] H fun w H' => w = .int .i64 (mapErrL l) ∧ H' = H := by
  refine ACall.drop (.int _ _) ?_
  (refine a73 ?_; simp only [n73,List.replicate,yq,yr,yt,yu]; first | refine q1 ?_ | refine q2 ?_ | refine q6 ?_ | refine q7 ?_ | refine qh rfl ?_ | skip)
  have g0 : (H ++ [AObj.cells true 0 [v]])[H.length]? = some (.cells true 0 [v]) := at_new
  have xG : Ext H (H ++ [AObj.cells true 0 [v]]) := (Ext.refl H).app _
  (repeat(first|refine yw ?_|((first|apply yd|apply ye);simp (disch:=first|exact zz|fail) only[go_sem,hl.box1,n1_at g0];with_reducible rfl)))
  generalize (H ++ [AObj.cells true 0 [v]] : AHeap) = G at g0 xG
  refine aops_call_to (rCheckMap_c (hl.ext xG) hb) ?_
  (refine yg ?_)
  exact fin_1 ⟨rfl,xG⟩
end
end Go.Lq

namespace Go.Lq
open Go
open Go.Proofs
theorem fin_ll {c : RCode} {n a b m : Nat} {R : Value → AHeap → Prop} {e : Env} {H : AHeap} {u w : Value} (h1 : loadNR m (e.getD a undef) H = some (u,H)) (h2 : loadR (e.getD b undef) H = some (w,H)) (h : R (.tuple #[u,w]) H) :
    Fin ⟨c,n,[.loadN m a,.load b]⟩ R .ret e H := by
  refine ⟨.inr rfl,_,?_,h⟩
  unfold loadNR at h1
  unfold loadR at h2
  split at h1
  · rename_i id off hp
    simp only [Option.map_eq_some_iff,Prod.mk.injEq,and_true] at h1
    obtain ⟨us,h3,rfl⟩ := h1
    split at h2
    · rename_i id' off' hp'
      simp only [Option.map_eq_some_iff,Prod.mk.injEq,and_true] at h2
      obtain ⟨us',h4,rfl⟩ := h2
      simp only [resultA,List.mapM_cons,resA,hp,h3,hp',h4,Option.map_some,List.mapM_nil]
      rfl
    · cases h2
  · cases h1
section
variable {H : AHeap}
end
end Go.Lq

namespace Go.Lq
open Go
open Go.Proofs
theorem load1 {H : AHeap} {id : Nat} {w : Value} (h : H[id]? = some (.cells true 0 [w])) : loadR (.pointer (some ⟨id,0,none⟩)) H = some (w,H) := by rw [load_at h]; rfl
section
variable {H : AHeap}
end
end Go.Lq

namespace Go.Lq
structure Digit (y1 y0 u u1 : Int) : Prop where
  b0 : 0 ≤ y0 ∧ y0 < 4294967296
  b1 : 2147483648 ≤ y1 ∧ y1 < 4294967296
  bu : 0 ≤ u ∧ u < y1 * 4294967296 + y0
  bu1 : 0 ≤ u1 ∧ u1 < 4294967296
def quoD (y1 y0 u u1 : Int) : Int := (u * 4294967296 + u1) / (y1 * 4294967296 + y0)
section
variable {y1 y0 u u1 q r : Int}
theorem Digit.vpos (h : Digit y1 y0 u u1) : 0 < y1 * 4294967296 + y0 := by have := h.b0; have := h.b1; omega
theorem Digit.quo_nn (h : Digit y1 y0 u u1) : 0 ≤ quoD y1 y0 u u1 := Int.ediv_nonneg (by have := h.bu; have := h.bu1; omega) (by have := h.vpos; omega)
theorem Digit.quo_lt (h : Digit y1 y0 u u1) : quoD y1 y0 u u1 < 4294967296 := by
  refine Int.ediv_lt_of_lt_mul h.vpos ?_
  have h1 := h.bu
  have h2 := h.bu1
  generalize y1 * 4294967296 + y0 = v at *
  omega
theorem Digit.le_of (h : Digit y1 y0 u u1) (hm : q * (y1 * 4294967296 + y0) ≤ u * 4294967296 + u1) : q ≤ quoD y1 y0 u u1 := Int.le_ediv_of_mul_le h.vpos hm
theorem Digit.lt_of (h : Digit y1 y0 u u1) (hm : u * 4294967296 + u1 < q * (y1 * 4294967296 + y0)) : quoD y1 y0 u u1 < q := Int.ediv_lt_of_lt_mul h.vpos hm
theorem Digit.quo_mul (h : Digit y1 y0 u u1) : quoD y1 y0 u u1 * (y1 * 4294967296 + y0) ≤ u * 4294967296 + u1 := Int.ediv_mul_le _ (by have := h.vpos; omega)
theorem dist_qv (q y1 y0 : Int) : q * (y1 * 4294967296 + y0) = q * y1 * 4294967296 + q * y0 := by rw [Int.mul_add,Int.mul_assoc]
theorem Digit.first (h : Digit y1 y0 u u1) : quoD y1 y0 u u1 ≤ u / y1 := by
  have h1 := h.quo_mul
  have h2 := h.quo_nn
  have hy := h.b0
  have hy1 := h.b1
  have hu1 := h.bu1
  rw [dist_qv] at h1
  refine Int.le_ediv_of_mul_le (by omega) ?_
  have h3 := Int.mul_nonneg h2 hy.1
  generalize quoD y1 y0 u u1 * y1 = a at *
  generalize quoD y1 y0 u u1 * y0 = b at *
  omega
theorem Digit.step (h : Digit y1 y0 u u1) (hu : u = q * y1 + r) (hc : 4294967296 ≤ q ∨ 4294967296 * r + u1 < q * y0) : quoD y1 y0 u u1 ≤ q - 1 := by
  rcases hc with hc | hc
  · have := h.quo_lt; omega
  · have : quoD y1 y0 u u1 < q := h.lt_of (by rw [dist_qv]; omega)
    omega
theorem Digit.done (h : Digit y1 y0 u u1) (hu : u = q * y1 + r) (hq : quoD y1 y0 u u1 ≤ q) (hc : q * y0 ≤ 4294967296 * r + u1) : q = quoD y1 y0 u u1 := by
  have := h.le_of (q := q) (by rw [dist_qv]; omega)
  omega
theorem Digit.left (h : Digit y1 y0 u u1) (hq : q = quoD y1 y0 u u1) : u * 4294967296 + u1 - q * (y1 * 4294967296 + y0) = (u * 4294967296 + u1) % (y1 * 4294967296 + y0) := by
  subst hq
  have := Int.mul_ediv_add_emod (u * 4294967296 + u1) (y1 * 4294967296 + y0)
  rw [Int.mul_comm] at this
  unfold quoD
  omega
end
end Go.Lq






namespace Go.Lq
open Go
open Go.Proofs
def ratioErrL (num den step : Int) (n : Nat) : Int := firstErr [(if (1 ≤ num ∧ num ≤ 1000) ∧ (1 ≤ den ∧ den ≤ 1000) then 0 else 2),(if step = 0 ∧ (n : Int) = 0 then 0 else 3)]
def curveErrL (l : List (Int × Int)) (step num den : Int) : Int := firstErr [mapErrL l,(if 1 ≤ step ∧ step ≤ 1000000000000 then 0 else 2),(if num = 0 ∧ den = 0 then 0 else 3)]
def rulesErrL (kind deg num den step : Int) (l : List (Int × Int)) : Int :=
  if 0 ≤ kind ∧ kind ≤ 1 then (if degErrL deg = 0 then (if kind = 0 then ratioErrL num den step l.length else curveErrL l step num den) else degErrL deg) else 15
def rulesC (kind deg num den step : Int) (v : Value) : List Value := [.int .i64 kind,.int .i64 deg,.int .i64 num,.int .i64 den,.int .i64 step,v]
def rulesV (kind deg num den step : Int) (v : Value) : Value := .agg ⟨[.int .i64 kind,.int .i64 deg,.int .i64 num,.int .i64 den,.int .i64 step,v]⟩
section
variable {H : AHeap} {kind deg num den step : Int} {l : List (Int × Int)} {v : Value}
theorem box_rules (hv : isAtom v = true) : boxR (rulesV kind deg num den step v) H = some (.pointer (some ⟨H.length,0,none⟩),H ++ [.cells true 0 (rulesC kind deg num den step v)]) := box_agg (by simp [hv,isAtom_int])
theorem checkRules1_c (n : Int) : ACall Go.Proofs.Tryz.prog 121 [.int .i64 n] H fun w H' => w = .bool (decide (1 ≤ n ∧ n ≤ 1000)) ∧ H' = H := by
  (refine a121 ?_; simp only [n121,List.replicate,yq,yr,yt,yu]; first | refine q1 ?_ | refine q2 ?_ | refine q6 ?_ | refine q7 ?_ | refine qh rfl ?_ | skip)
  (refine yg ?_)
  refine aops_call_to (within_c _ _ _) ?_
  (refine yg ?_)
  exact fin_1 ⟨rfl,rfl⟩
theorem load_map {G : AHeap} {id : Nat} (h : G[id]? = some (.cells true 0 (rulesC kind deg num den step v))) : loadNR 1 (.pointer (some ⟨id,5,none⟩)) G = some (.agg ⟨[v]⟩,G) := loadN_at h (by simp [rulesC])
set_option maxHeartbeats 4000000 in
theorem rRulesErr_c (hl : Pairs H l v) (hb : l.length ≤ 1000000000) : ACall Go.Proofs.Tryz.prog 29 [rulesV kind deg num den step v] H fun w H' => w = .int .i64 (rulesErrL kind deg num den step l) ∧ H' = H := by
  refine ACall.drop (.int _ _) ?_
  (refine a29 ?_; simp only [n29,List.replicate,yq,yr,yt,yu]; first | refine q1 ?_ | refine q2 ?_ | refine q6 ?_ | refine q7 ?_ | refine qh rfl ?_ | skip)
  have g0 : (H ++ [AObj.cells true 0 (rulesC kind deg num den step v)])[H.length]? = some (.cells true 0 (rulesC kind deg num den step v)) := at_new
  have xG : Ext H (H ++ [AObj.cells true 0 (rulesC kind deg num den step v)]) := (Ext.refl H).app _
  (repeat (first | refine yv ?_ | (apply yd; simp (disch:=first|exact zz|fail) only[go_sem,box_rules hl.atom];with_reducible rfl)))
  generalize (H ++ [AObj.cells true 0 (rulesC kind deg num den step v)] : AHeap) = G at g0 xG
  have hl1 := hl.ext xG
  (repeat(first|refine yw ?_|((first|apply yd|apply ye);simp (disch:=first|exact zz|fail) only[go_sem,load_at g0,rulesC];with_reducible rfl)))
  refine aops_call_to (bwithin_c _ _ _) ?_
  by_cases hk : 0 ≤ kind ∧ kind ≤ 1
  rotate_left 1
  · have ev : rulesErrL kind deg num den step l = 15 := by unfold rulesErrL; rw [if_neg hk]
    rw [ev]
    (repeat(first|refine yw ?_|((first|apply yd|apply ye);simp (disch:=first|exact zz|fail) only[go_sem,dec_f hk];with_reducible rfl)))
    refine cond_t rfl ?_
    (refine yg ?_)
    exact fin_1 ⟨rfl,xG⟩
  (repeat(first|refine yw ?_|((first|apply yd|apply ye);simp (disch:=first|exact zz|fail) only[go_sem,dec_t hk];with_reducible rfl)))
  refine cond_f rfl ?_
  (repeat(first|refine yw ?_|((first|apply yd|apply ye);simp (disch:=first|exact zz|fail) only[go_sem,load_at g0,rulesC];with_reducible rfl)))
  refine aops_call_to (refDegreeErr_c _) ?_
  by_cases hd : degErrL deg = 0
  rotate_left 1
  · have ev : rulesErrL kind deg num den step l = degErrL deg := by unfold rulesErrL; rw [if_pos hk,if_neg hd]
    rw [ev]
    (repeat(first|refine yw ?_|((first|apply yd|apply ye);simp (disch:=first|exact zz|fail) only[go_sem,dec_t (show degErrL deg ≠ 0 from hd)];with_reducible rfl)))
    refine cond_t rfl ?_
    (refine yg ?_)
    exact fin_1 ⟨rfl,xG⟩
  (repeat(first|refine yw ?_|((first|apply yd|apply ye);simp (disch:=first|exact zz|fail) only[go_sem,hd];with_reducible rfl)))
  refine cond_f rfl ?_
  by_cases h0 : kind = 0
  · have ev : rulesErrL kind deg num den step l = ratioErrL num den step l.length := by unfold rulesErrL; rw [if_pos hk,if_pos hd,if_pos h0]
    rw [ev]
    (repeat(first|refine yw ?_|((first|apply yd|apply ye);simp (disch:=first|exact zz|fail) only[go_sem,load_at g0,rulesC,dec_t h0];with_reducible rfl)))
    refine cond_t rfl ?_
    (repeat(first|refine yw ?_|((first|apply yd|apply ye);simp (disch:=first|exact zz|fail) only[go_sem,load_at g0,rulesC];with_reducible rfl)))
    refine aops_call_to (bwithin_c _ _ _) ?_
    by_cases hn : 1 ≤ num ∧ num ≤ 1000
    rotate_left 1
    · have e2 : ratioErrL num den step l.length = 2 := by unfold ratioErrL; rw [if_neg (fun h => hn h.1)]; exact firstErr_e (by decide) _
      rw [e2]
      (repeat(first|refine yw ?_|((first|apply yd|apply ye);simp (disch:=first|exact zz|fail) only[go_sem,dec_f hn];with_reducible rfl)))
      refine cond_t rfl ?_
      (refine yg ?_)
      exact fin_1 ⟨rfl,xG⟩
    (repeat(first|refine yw ?_|((first|apply yd|apply ye);simp (disch:=first|exact zz|fail) only[go_sem,dec_t hn,load_at g0,rulesC];with_reducible rfl)))
    refine aops_call_to (bwithin_c _ _ _) ?_
    by_cases hn2 : 1 ≤ den ∧ den ≤ 1000
    rotate_left 1
    · have e2 : ratioErrL num den step l.length = 2 := by unfold ratioErrL; rw [if_neg (fun h => hn2 h.2)]; exact firstErr_e (by decide) _
      rw [e2]
      (repeat(first|refine yw ?_|((first|apply yd|apply ye);simp (disch:=first|exact zz|fail) only[go_sem,dec_t hn,dec_f hn2];with_reducible rfl)))
      refine cond_t rfl ?_
      (refine yg ?_)
      exact fin_1 ⟨rfl,xG⟩
    have e3 : ratioErrL num den step l.length = if step = 0 ∧ (l.length : Int) = 0 then 0 else 3 := by
      unfold ratioErrL; rw [if_pos ⟨hn,hn2⟩,firstErr_z]
      split <;> rfl
    rw [e3]
    (repeat(first|refine yw ?_|((first|apply yd|apply ye);simp (disch:=first|exact zz|fail) only[go_sem,dec_t hn,dec_t hn2];with_reducible rfl)))
    refine cond_f rfl ?_
    by_cases hs : step = 0
    rotate_left 1
    · rw [if_neg (fun h => hs h.1)]
      (repeat(first|refine yw ?_|((first|apply yd|apply ye);simp (disch:=first|exact zz|fail) only[go_sem,load_at g0,rulesC,dec_t (show step ≠ 0 from hs)];with_reducible rfl)))
      refine cond_t rfl ?_
      (refine yg ?_)
      exact fin_1 ⟨rfl,xG⟩
    by_cases hz : (l.length : Int) = 0
    rotate_left 1
    · rw [if_neg (fun h => hz h.2)]
      (repeat(first|refine yw ?_|((first|apply yd|apply ye);simp (disch:=first|exact zz|fail) only[go_sem,hl1.len,hl1.idx,hl1.load,load_at g0,rulesC,dec_f (show ¬ step ≠ 0 from fun h => h hs),dec_t (show (l.length : Int) ≠ 0 from hz)];with_reducible rfl)))
      refine cond_t rfl ?_
      (refine yg ?_)
      exact fin_1 ⟨rfl,xG⟩
    rw [if_pos ⟨hs,hz⟩]
    (repeat(first|refine yw ?_|((first|apply yd|apply ye);simp (disch:=first|exact zz|fail) only[go_sem,hl1.len,hl1.idx,hl1.load,load_at g0,rulesC,dec_f (show ¬ step ≠ 0 from fun h => h hs),dec_f (show ¬ (l.length : Int) ≠ 0 from fun h => h hz)];with_reducible rfl)))
    refine cond_f rfl ?_
    (refine yg ?_)
    exact fin_1 ⟨rfl,xG⟩
  have ev : rulesErrL kind deg num den step l = curveErrL l step num den := by unfold rulesErrL; rw [if_pos hk,if_pos hd,if_neg h0]
  rw [ev]
  (repeat(first|refine yw ?_|((first|apply yd|apply ye);simp (disch:=first|exact zz|fail) only[go_sem,load_at g0,rulesC,dec_f h0];with_reducible rfl)))
  refine cond_f rfl ?_
  (repeat(first|refine yw ?_|((first|apply yd|apply ye);simp (disch:=first|exact zz|fail) only[go_sem,load_map g0];with_reducible rfl)))
  refine aops_call_to (rMapErr_c hl1 hb) ?_
  by_cases hm : mapErrL l = 0
  rotate_left 1
  · have e2 : curveErrL l step num den = mapErrL l := firstErr_e hm _
    rw [e2]
    (repeat(first|refine yw ?_|((first|apply yd|apply ye);simp (disch:=first|exact zz|fail) only[go_sem,dec_t (show mapErrL l ≠ 0 from hm)];with_reducible rfl)))
    refine cond_t rfl ?_
    (refine yg ?_)
    exact fin_1 ⟨rfl,xG⟩
  (repeat(first|refine yw ?_|((first|apply yd|apply ye);simp (disch:=first|exact zz|fail) only[go_sem,hm];with_reducible rfl)))
  refine cond_f rfl ?_
  (repeat(first|refine yw ?_|((first|apply yd|apply ye);simp (disch:=first|exact zz|fail) only[go_sem,load_at g0,rulesC];with_reducible rfl)))
  refine aops_call_to (bwithin_c _ _ _) ?_
  by_cases hs : 1 ≤ step ∧ step ≤ 1000000000000
  rotate_left 1
  · have e2 : curveErrL l step num den = 2 := by unfold curveErrL; rw [hm,firstErr_z,if_neg hs]; exact firstErr_e (by decide) _
    rw [e2]
    (repeat(first|refine yw ?_|((first|apply yd|apply ye);simp (disch:=first|exact zz|fail) only[go_sem,dec_f hs];with_reducible rfl)))
    refine cond_t rfl ?_
    (refine yg ?_)
    exact fin_1 ⟨rfl,xG⟩
  have e3 : curveErrL l step num den = if num = 0 ∧ den = 0 then 0 else 3 := by
    unfold curveErrL; rw [hm,firstErr_z,if_pos hs,firstErr_z]
    split <;> rfl
  rw [e3]
  (repeat(first|refine yw ?_|((first|apply yd|apply ye);simp (disch:=first|exact zz|fail) only[go_sem,dec_t hs];with_reducible rfl)))
  refine cond_f rfl ?_
  by_cases hn : num = 0
  rotate_left 1
  · rw [if_neg (fun h => hn h.1)]
    (repeat(first|refine yw ?_|((first|apply yd|apply ye);simp (disch:=first|exact zz|fail) only[go_sem,load_at g0,rulesC,dec_t (show num ≠ 0 from hn)];with_reducible rfl)))
    refine cond_t rfl ?_
    (refine yg ?_)
    exact fin_1 ⟨rfl,xG⟩
  by_cases hn2 : den = 0
  rotate_left 1
  · rw [if_neg (fun h => hn2 h.2)]
    (repeat(first|refine yw ?_|((first|apply yd|apply ye);simp (disch:=first|exact zz|fail) only[go_sem,load_at g0,rulesC,dec_f (show ¬ num ≠ 0 from fun h => h hn),dec_t (show den ≠ 0 from hn2)];with_reducible rfl)))
    refine cond_t rfl ?_
    (refine yg ?_)
    exact fin_1 ⟨rfl,xG⟩
  rw [if_pos ⟨hn,hn2⟩]
  (repeat(first|refine yw ?_|((first|apply yd|apply ye);simp (disch:=first|exact zz|fail) only[go_sem,load_at g0,rulesC,dec_f (show ¬ num ≠ 0 from fun h => h hn),dec_f (show ¬ den ≠ 0 from fun h => h hn2)];with_reducible rfl)))
  refine cond_f rfl ?_
  (refine yg ?_)
  exact fin_1 ⟨rfl,xG⟩
end
end Go.Lq

namespace Go.Lq
open Go
open Go.Proofs
theorem store_in {H : AHeap} {k e i : Nat} {vs : List Value} {v w : Value} (h : H[k]? = some (.cells true e vs)) (hi : i < vs.length) (ha : isAtom w = true) (hc : v.cells = ⟨[w]⟩) :
    storeR 1 (.pointer (some ⟨k,i,none⟩)) v H = some (undef,H.set k (.cells true e (vs.set i w))) := by
  have e2 : ([w] : List Value).all isAtom = true := by simp [ha]
  simp only [storeR,hc,List.size_toArray,storeAt,h,e2,and_true,List.length_cons,List.length_nil]
  rw [setCells_one _ _ _ hi]
  simp [show i + 1 ≤ vs.length by omega]
theorem store_all {H : AHeap} {id e n : Nat} {us vs : List Value} (h : H[id]? = some (.cells true e vs)) (hl : us.length = vs.length) (ha : us.all isAtom = true) (hn : n = us.length) :
    storeR n (.pointer (some ⟨id,0,none⟩)) (.agg ⟨us⟩) H = some (undef,H.set id (.cells true e us)) := by
  subst hn
  have e1 : (Value.agg ⟨us⟩).cells = ⟨us⟩ := rfl
  have e2 : setCells vs 0 us = us := by
    unfold setCells
    simp [hl]
  simp only [storeR,e1,List.size_toArray,storeAt,h,ha,e2]
  simp [hl]
theorem wraps_rules {kind deg num den step : Int} : Wraps fun s => rulesV kind deg num den step s := fun s n a b h => .agg rfl fun i u u' h1 h2 => by
  match i with
  | 0 => simp at h1 h2; subst h1; subst h2; exact .int _ _
  | 1 => simp at h1 h2; subst h1; subst h2; exact .int _ _
  | 2 => simp at h1 h2; subst h1; subst h2; exact .int _ _
  | 3 => simp at h1 h2; subst h1; subst h2; exact .int _ _
  | 4 => simp at h1 h2; subst h1; subst h2; exact .int _ _
  | 5 => simp at h1 h2; subst h1; subst h2; exact h
  | i + 6 => simp at h1
section
variable {H : AHeap} {kind deg num den step : Int} {l : List (Int × Int)} {v : Value}
theorem few_c (hl : Pairs H l v) : ACall Go.Proofs.Tryz.prog 15 [.agg ⟨[v]⟩] H fun w H' => w = .bool (decide (l.length ≤ 22)) ∧ H' = H := by
  refine ACall.drop (.bool _) ?_
  (refine a15 ?_; simp only [n15,List.replicate,yq,yr,yt,yu]; first | refine q1 ?_ | refine q2 ?_ | refine q6 ?_ | refine q7 ?_ | refine qh rfl ?_ | skip)
  have g0 : (H ++ [AObj.cells true 0 [v]])[H.length]? = some (.cells true 0 [v]) := at_new
  have xG : Ext H (H ++ [AObj.cells true 0 [v]]) := (Ext.refl H).app _
  (repeat (first | refine yv ?_ | (apply yd; simp (disch:=first|exact zz|fail) only[go_sem,hl.box1];with_reducible rfl)))
  generalize (H ++ [AObj.cells true 0 [v]] : AHeap) = G at g0 xG
  have hl1 := hl.ext xG
  (repeat(first|refine yw ?_|((first|apply yd|apply ye);simp (disch:=first|exact zz|fail) only[go_sem,hl1.len,hl1.idx,hl1.load,load_at g0];with_reducible rfl)))
  have e1 : decide ((l.length : Int) ≤ 22) = decide (l.length ≤ 22) := by simp; omega
  exact fin_1 ⟨by rw [← e1]; rfl,xG⟩
theorem copyMap_c (hl : Pairs H l v) (hb : l.length ≤ 1000000) : ACall Go.Proofs.Tryz.prog 56 [.agg ⟨[v]⟩] H fun w H' =>
    w = .agg ⟨[.slice (some ⟨H.length,0,none⟩) l.length l.length]⟩ ∧ H' = H ++ [.cells true 2 (flatP l)] := by
  refine ACall.tidyE (f := fun s => .agg ⟨[s]⟩) (n := l.length) (sz := 2) wraps_agg1 (closed_flatP l) ?_
  (refine a56 ?_; simp only [n56,List.replicate,yq,yr,yt,yu]; first | refine q1 ?_ | refine q2 ?_ | refine q6 ?_ | refine q7 ?_ | refine qh rfl ?_ | skip)
  (repeat (first | refine yv ?_ | (apply yd; simp (disch:=first|exact zz|fail) only[go_sem,hl.box1];with_reducible rfl)))
  (simp only [List.length_append,List.length_cons,List.length_nil,Nat.zero_add,Nat.add_assoc,Nat.reduceAdd])
  obtain ⟨G,hG⟩ : ∃ G,G = H ++ [AObj.cells true 0 [v]] ++ [AObj.cells true 0 [.slice none 0 0]] := ⟨_,rfl⟩
  have g0 : G[H.length]? = some (.cells true 0 [v]) := by rw [hG]; exact at_app at_new
  have g1 : G[H.length + 1]? = some (.cells true 0 [.slice none 0 0]) := by rw [hG]; simp
  have xG : Ext H G := by rw [hG]; exact ((Ext.refl H).app _).app _
  have lG : G.length = H.length + 2 := by rw [hG]; simp
  rw [← hG]
  clear hG
  obtain ⟨s,H2,ha,hx2,id,rfl,hid,hc2⟩ := append_copy (bytes := 16) (hl.ext xG) (isAtom_flatP l) (roomOk_of (by omega) (by omega))
  have h1 := hx2.cell g1
  have hms : mkSliceL 2 0 (some []) G = some (.slice (some ⟨G.length,0,none⟩) 0 0,G ++ [.cells true 2 []]) := rfl
  have k0 := at_app (N := [AObj.cells true 2 []]) g0
  have hf : fillA [.slice none 0 0] [(0,1,.slice (some ⟨id,0,none⟩) l.length l.length)] = some [.slice (some ⟨id,0,none⟩) l.length l.length] := rfl
  have hst := store_all (n := 1) (us := [.slice (some ⟨id,0,none⟩) l.length l.length]) h1 rfl rfl rfl
  (repeat(first|refine yw ?_|((first|apply yd|apply ye);simp (disch:=first|exact zz|fail) only[go_sem,hms,load_at k0,ha,hf,hst];with_reducible rfl)))
  refine fin_l1 (u := .agg ⟨[.slice (some ⟨id,0,none⟩) l.length l.length]⟩) (loadN_at (k := 0) (get_set_self h1) (by simp)) ?_
  refine ⟨_,id,rfl,(xG.trans hx2).set (by omega) _,rfl,by omega,?_⟩
  rw [List.getElem?_set_ne (by omega)]; exact hc2
theorem copyRules_c (hl : Pairs H l v) (hb : l.length ≤ 1000000) : ACall Go.Proofs.Tryz.prog 18 [rulesV kind deg num den step v] H fun w H' =>
    w = rulesV kind deg num den step (.slice (some ⟨H.length,0,none⟩) l.length l.length) ∧ H' = H ++ [.cells true 2 (flatP l)] := by
  refine ACall.tidyE (f := fun s => rulesV kind deg num den step s) (n := l.length) (sz := 2) wraps_rules (closed_flatP l) ?_
  (refine a18 ?_; simp only [n18,List.replicate,yq,yr,yt,yu]; first | refine q1 ?_ | refine q2 ?_ | refine q6 ?_ | refine q7 ?_ | refine qh rfl ?_ | skip)
  (repeat (first | refine yv ?_ | (apply yd; simp (disch:=first|exact zz|fail) only[go_sem,box_rules hl.atom];with_reducible rfl)))
  (simp only [List.length_append,List.length_cons,List.length_nil,Nat.zero_add,Nat.add_assoc,Nat.reduceAdd])
  obtain ⟨G,hG⟩ : ∃ G,G = H ++ [AObj.cells true 0 (rulesC kind deg num den step v)] ++ [AObj.cells true 0 [.int .i64 0,.int .i64 0,.int .i64 0,.int .i64 0,.int .i64 0,.slice none 0 0]] := ⟨_,rfl⟩
  have g0 : G[H.length]? = some (.cells true 0 (rulesC kind deg num den step v)) := by rw [hG]; exact at_app at_new
  have g1 : G[H.length + 1]? = some (.cells true 0 [.int .i64 0,.int .i64 0,.int .i64 0,.int .i64 0,.int .i64 0,.slice none 0 0]) := by rw [hG]; simp
  have xG : Ext H G := by rw [hG]; exact ((Ext.refl H).app _).app _
  have lG : G.length = H.length + 2 := by rw [hG]; simp
  rw [← hG]
  clear hG
  (repeat(first|refine yw ?_|((first|apply yd|apply ye);simp (disch:=first|exact zz|fail) only[go_sem,load_map g0];with_reducible rfl)))
  refine aops_call_to (copyMap_c (hl.ext xG) hb) ?_
  have k0 := at_app (N := [AObj.cells true 2 (flatP l)]) g0
  have k1 := at_app (N := [AObj.cells true 2 (flatP l)]) g1
  have k2 : (G ++ [AObj.cells true 2 (flatP l)])[G.length]? = some (.cells true 2 (flatP l)) := at_new
  have x2 := xG.app [AObj.cells true 2 (flatP l)]
  generalize (G ++ [AObj.cells true 2 (flatP l)] : AHeap) = G2 at k0 k1 k2 x2
  obtain ⟨s,hs⟩ : ∃ s,Value.slice (some ⟨G.length,0,none⟩) l.length l.length = s := ⟨_,rfl⟩
  have hsa : isAtom s = true := by rw [← hs]; rfl
  rw [hs]
  have hst : storeR 1 (.pointer (some ⟨H.length,5,none⟩)) (.agg ⟨[s]⟩) G2 = some (undef,G2.set H.length (.cells true 0 (rulesC kind deg num den step s))) := store_in k0 (by simp [rulesC]) hsa rfl
  have j0 : (G2.set H.length (.cells true 0 (rulesC kind deg num den step s)))[H.length]? = some (.cells true 0 (rulesC kind deg num den step s)) := get_set_self k0
  have j1 : (G2.set H.length (.cells true 0 (rulesC kind deg num den step s)))[H.length + 1]? = some (.cells true 0 [.int .i64 0,.int .i64 0,.int .i64 0,.int .i64 0,.int .i64 0,.slice none 0 0]) := by rw [List.getElem?_set_ne (by omega)]; exact k1
  have j2 : (G2.set H.length (.cells true 0 (rulesC kind deg num den step s)))[G.length]? = some (.cells true 2 (flatP l)) := by rw [List.getElem?_set_ne (by omega)]; exact k2
  have x3 := x2.set (Nat.le_refl _) (.cells true 0 (rulesC kind deg num den step s))
  have l6 : loadNR 6 (.pointer (some ⟨H.length,0,none⟩)) (G2.set H.length (.cells true 0 (rulesC kind deg num den step s))) = some (rulesV kind deg num den step s,G2.set H.length (.cells true 0 (rulesC kind deg num den step s))) := loadN_at j0 (by simp [rulesC])
  have hs6 : storeR 6 (.pointer (some ⟨H.length + 1,0,none⟩)) (rulesV kind deg num den step s) (G2.set H.length (.cells true 0 (rulesC kind deg num den step s))) = some (undef,(G2.set H.length (.cells true 0 (rulesC kind deg num den step s))).set (H.length + 1) (.cells true 0 (rulesC kind deg num den step s))) := store_all j1 rfl (by simp [hsa,isAtom_int]) rfl
  (repeat(first|refine yw ?_|((first|apply yd|apply ye);simp (disch:=first|exact zz|fail) only[go_sem,hst,l6,hs6];with_reducible rfl)))
  refine fin_l1 (u := rulesV kind deg num den step s) (loadN_at (k := 0) (get_set_self j1) (by simp [rulesC])) ?_
  refine ⟨s,G.length,rfl,x3.set (by omega) _,hs.symm,by omega,?_⟩
  rw [List.getElem?_set_ne (by omega)]; exact j2
end
end Go.Lq

namespace Go.Lq
def pieceP (l : List (Int × Int)) (n : Int) : (Int × Int) × (Int × Int) := pieceOf l (atPos l n 0 (l.length - 2))
structure PieceOk (p : (Int × Int) × (Int × Int)) : Prop where
  pos : p.1.1 < p.2.1
  time : p.1.2 < p.2.2
theorem MapOk.piece {l : List (Int × Int)} (h : MapOk l) {i : Nat} (hi : i + 1 < l.length) : PieceOk (pieceOf l i) := ⟨h.posUp i hi,h.timeUp i hi⟩
theorem timHi_eq {p : (Int × Int) × (Int × Int)} {n : Int} (h : p.1.1 < p.2.1) : timHi p n = p.1.2 + -(-((p.2.2 - p.1.2) * (n - p.1.1)) / (p.2.1 - p.1.1)) := by
  unfold timHi timN
  have e : -(p.1.2 * (p.2.1 - p.1.1) + (p.2.2 - p.1.2) * (n - p.1.1)) = -((p.2.2 - p.1.2) * (n - p.1.1)) + (p.2.1 - p.1.1) * (-p.1.2) := by
    rw [Int.mul_neg,Int.mul_comm p.1.2]; omega
  rw [e,Int.add_mul_ediv_left _ _ (show p.2.1 - p.1.1 ≠ 0 by omega)]
  omega
theorem timHi_first {p : (Int × Int) × (Int × Int)} (h : p.1.1 < p.2.1) : timHi p p.1.1 = p.1.2 := by
  rw [timHi_eq h,Int.sub_self,Int.mul_zero,Int.neg_zero,Int.zero_ediv]; omega
theorem timHi_last {p : (Int × Int) × (Int × Int)} (h : p.1.1 < p.2.1) : timHi p p.2.1 = p.2.2 := by
  rw [timHi_eq h,← Int.neg_mul,Int.mul_ediv_cancel _ (show p.2.1 - p.1.1 ≠ 0 by omega)]; omega
theorem MapOk.anyP {l : List (Int × Int)} (h : MapOk l) {f : (Int × Int) × (Int × Int) → Int → Int} (h1 : ∀ i,i + 1 < l.length → f (pieceOf l i) (l.getD i (0,0)).1 = (l.getD i (0,0)).2)
    (h2 : ∀ i,i + 1 < l.length → f (pieceOf l i) (l.getD (i + 1) (0,0)).1 = (l.getD (i + 1) (0,0)).2) {n : Int} {i : Nat} (hi : i + 1 < l.length) (ha : (l.getD i (0,0)).1 ≤ n) (hb : n ≤ (l.getD (i + 1) (0,0)).1) :
    f (pieceP l n) n = f (pieceOf l i) n := by
  have hlo := h.lo
  have h0 : (l.getD 0 (0,0)).1 ≤ n := Int.le_trans (h.posLe (Nat.zero_le i) (by omega)) ha
  have hE : n ≤ (l.getD (l.length - 1) (0,0)).1 := Int.le_trans hb (h.posLe (show i + 1 ≤ l.length - 1 by omega) (by omega))
  obtain ⟨a1,a2⟩ := atPos_in (l := l) (t := n) (k := l.length - 2) (i := 0) (by omega) h0
  have a3 := atPos_up (l := l) (t := n) (k := l.length - 2) (i := 0) (by omega) hE
  unfold pieceP
  generalize atPos l n 0 (l.length - 2) = j at *
  by_cases e : i = j
  · rw [e]
  by_cases hij : i < j
  · have c1 := h.posLe (show i + 1 ≤ j by omega) (by omega)
    have e1 : i + 1 = j := by
      refine Decidable.byContradiction fun hn => ?_
      have := h.posInj (show i + 1 < j by omega) (by omega)
      omega
    subst e1
    have e2 : n = (l.getD (i + 1) (0,0)).1 := by omega
    rw [e2,h1 (i + 1) a1,h2 i hi]
  · have c1 := h.posLe (show j + 1 ≤ i by omega) (by omega)
    have e1 : j + 1 = i := by
      refine Decidable.byContradiction fun hn => ?_
      have := h.posInj (show j + 1 < i by omega) (by omega)
      omega
    subst e1
    have e2 : n = (l.getD (j + 1) (0,0)).1 := by omega
    rw [e2,h2 j a1,h1 (j + 1) hi]
def mapTimLo (l : List (Int × Int)) (n : Int) : Int := timLo (pieceP l n) n
def mapTimHi (l : List (Int × Int)) (n : Int) : Int := timHi (pieceP l n) n
section
variable {l : List (Int × Int)} (h : MapOk l)
include h
theorem timLo_of {n : Int} {i : Nat} (hi : i + 1 < l.length) (ha : (l.getD i (0,0)).1 ≤ n) (hb : n ≤ (l.getD (i + 1) (0,0)).1) : mapTimLo l n = timLo (pieceOf l i) n :=
  h.anyP (fun i hi => timLo_first (p := pieceOf l i) (h.posUp i hi)) (fun i hi => timLo_last (p := pieceOf l i) (h.posUp i hi)) hi ha hb
theorem timHi_of {n : Int} {i : Nat} (hi : i + 1 < l.length) (ha : (l.getD i (0,0)).1 ≤ n) (hb : n ≤ (l.getD (i + 1) (0,0)).1) : mapTimHi l n = timHi (pieceOf l i) n :=
  h.anyP (fun i hi => timHi_first (p := pieceOf l i) (h.posUp i hi)) (fun i hi => timHi_last (p := pieceOf l i) (h.posUp i hi)) hi ha hb
end
end Go.Lq

namespace Go.Lq
theorem atP_ge {l : List (Int × Int)} {t : Int} : ∀ {k i : Nat},i ≤ atPos l t i k
  | 0,i => Nat.le_refl _
  | k + 1,i => by
    rw [atPos_succ]
    split
    · exact Nat.le_trans (Nat.le_succ i) atP_ge
    · exact Nat.le_refl _
theorem atP_mono {l : List (Int × Int)} {t u : Int} (h : t ≤ u) : ∀ {k i : Nat},atPos l t i k ≤ atPos l u i k
  | 0,i => Nat.le_refl _
  | k + 1,i => by
    rw [atPos_succ,atPos_succ]
    by_cases h1 : (l.getD (i + 1) (0,0)).1 < t
    · rw [if_pos h1,if_pos (by omega)]; exact atP_mono h
    · rw [if_neg h1]
      split
      · exact Nat.le_trans (Nat.le_succ i) atP_ge
      · exact Nat.le_refl _
section
variable {p : (Int × Int) × (Int × Int)} (h : PieceOk p)
include h
end
section
variable {l : List (Int × Int)} (h : MapOk l)
include h
end
end Go.Lq

namespace Go.Lq
abbrev Mark := Int × Int × Int
def byR (L : Int × Int) (x : Mark) (q : Int) : Int × Int := (x.2.1 + min (L.1 * (q - x.1)) (L.2 * (q - x.1)),x.2.2 + max (L.1 * (q - x.1)) (L.2 * (q - x.1)))
theorem byR_up {L : Int × Int} {x : Mark} {q : Int} (hL : L.1 ≤ L.2) (h : 0 ≤ q - x.1) : byR L x q = (x.2.1 + L.1 * (q - x.1),x.2.2 + L.2 * (q - x.1)) := by
  have := Int.mul_le_mul_of_nonneg_right hL h
  unfold byR
  rw [Int.min_eq_left this,Int.max_eq_right this]
theorem byR_down {L : Int × Int} {x : Mark} {q : Int} (hL : L.1 ≤ L.2) (h : q - x.1 < 0) : byR L x q = (x.2.1 - L.2 * (x.1 - q),x.2.2 - L.1 * (x.1 - q)) := by
  have h1 := Int.mul_le_mul_of_nonneg_right hL (show 0 ≤ x.1 - q by omega)
  have e1 : L.1 * (q - x.1) = -(L.1 * (x.1 - q)) := by rw [← Int.mul_neg]; congr 1; omega
  have e2 : L.2 * (q - x.1) = -(L.2 * (x.1 - q)) := by rw [← Int.mul_neg]; congr 1; omega
  unfold byR
  rw [e1,e2]
  refine Prod.ext ?_ ?_
  · show x.2.1 + min _ _ = x.2.1 - _; omega
  · show x.2.2 + max _ _ = x.2.2 - _; omega
def clashB (L : Int × Int) (a b : Mark) : Bool := decide ((byR L a b.1).2 < b.2.1 ∨ b.2.2 < (byR L a b.1).1)
structure EvOk (L : Int × Int) (M : List Mark) : Prop where
  lo : 1 ≤ L.1 ∧ L.1 ≤ 100000
  hi : 1 ≤ L.2 ∧ L.2 ≤ 100000
  le : L.1 ≤ L.2
  len : M.length ≤ 12
  pos : ∀ i,i < M.length → 0 ≤ (M.getD i (0,0,0)).1 ∧ (M.getD i (0,0,0)).1 ≤ 1000000
  t1 : ∀ i,i < M.length → 0 ≤ (M.getD i (0,0,0)).2.1 ∧ (M.getD i (0,0,0)).2.1 ≤ 1000000000000
  t2 : ∀ i,i < M.length → 0 ≤ (M.getD i (0,0,0)).2.2 ∧ (M.getD i (0,0,0)).2.2 ≤ 1000000000000
  lohi : ∀ i,i < M.length → (M.getD i (0,0,0)).2.1 ≤ (M.getD i (0,0,0)).2.2
  up : ∀ i,i + 1 < M.length → (M.getD i (0,0,0)).1 < (M.getD (i + 1) (0,0,0)).1
def encTo (L : Int × Int) (M : List Mark) (q : Int) : Nat → Int × Int
  | 0 => (0,0)
  | 1 => byR L (M.getD 0 (0,0,0)) q
  | i + 2 => (max (encTo L M q (i + 1)).1 (byR L (M.getD (i + 1) (0,0,0)) q).1,min (encTo L M q (i + 1)).2 (byR L (M.getD (i + 1) (0,0,0)) q).2)
end Go.Lq

namespace Go.Lq
def atMost (p : (Int × Int) × (Int × Int)) (n c : Int) : Prop := timN p n ≤ c * (p.2.1 - p.1.1)
def atLeast (p : (Int × Int) × (Int × Int)) (n c : Int) : Prop := c * (p.2.1 - p.1.1) ≤ timN p n
def RateOk (L : Int × Int) (l : List (Int × Int)) : Prop := ∀ i,i + 1 < l.length → L.1 * ((l.getD (i + 1) (0,0)).1 - (l.getD i (0,0)).1) ≤ (l.getD (i + 1) (0,0)).2 - (l.getD i (0,0)).2 ∧ (l.getD (i + 1) (0,0)).2 - (l.getD i (0,0)).2 ≤ L.2 * ((l.getD (i + 1) (0,0)).1 - (l.getD i (0,0)).1)
theorem timN_diff {p : (Int × Int) × (Int × Int)} {n m : Int} : timN p m = timN p n + (p.2.2 - p.1.2) * (m - n) := by
  unfold timN
  have : (p.2.2 - p.1.2) * (m - p.1.1) = (p.2.2 - p.1.2) * (n - p.1.1) + (p.2.2 - p.1.2) * (m - n) := by rw [← Int.mul_add]; exact congrArg ((p.2.2 - p.1.2) * ·) (by omega)
  omega
theorem timN_first {p : (Int × Int) × (Int × Int)} : timN p p.1.1 = p.1.2 * (p.2.1 - p.1.1) := by unfold timN; rw [Int.sub_self,Int.mul_zero]; omega
theorem timN_last {p : (Int × Int) × (Int × Int)} : timN p p.2.1 = p.2.2 * (p.2.1 - p.1.1) := by unfold timN; rw [← Int.add_mul]; exact congrArg (· * (p.2.1 - p.1.1)) (by omega)
section
variable {p : (Int × Int) × (Int × Int)} {a b n m c : Int} (hr : a * (p.2.1 - p.1.1) ≤ p.2.2 - p.1.2 ∧ p.2.2 - p.1.2 ≤ b * (p.2.1 - p.1.1)) (hnm : n ≤ m)
include hr hnm
theorem most_up (h : atMost p n c) : atMost p m (c + b * (m - n)) := by
  have h1 := Int.mul_le_mul_of_nonneg_right hr.2 (show 0 ≤ m - n by omega)
  have e : b * (p.2.1 - p.1.1) * (m - n) = b * (m - n) * (p.2.1 - p.1.1) := Int.mul_right_comm _ _ _
  unfold atMost at *
  rw [timN_diff (n := n),Int.add_mul]
  omega
theorem least_up (h : atLeast p n c) : atLeast p m (c + a * (m - n)) := by
  have h1 := Int.mul_le_mul_of_nonneg_right hr.1 (show 0 ≤ m - n by omega)
  have e : a * (p.2.1 - p.1.1) * (m - n) = a * (m - n) * (p.2.1 - p.1.1) := Int.mul_right_comm _ _ _
  unfold atLeast at *
  rw [timN_diff (n := n),Int.add_mul]
  omega
theorem most_down (h : atMost p m c) : atMost p n (c - a * (m - n)) := by
  have h1 := Int.mul_le_mul_of_nonneg_right hr.1 (show 0 ≤ m - n by omega)
  have e : a * (p.2.1 - p.1.1) * (m - n) = a * (m - n) * (p.2.1 - p.1.1) := Int.mul_right_comm _ _ _
  unfold atMost at *
  rw [timN_diff (n := n)] at h
  rw [Int.sub_mul]
  omega
theorem least_down (h : atLeast p m c) : atLeast p n (c - b * (m - n)) := by
  have h1 := Int.mul_le_mul_of_nonneg_right hr.2 (show 0 ≤ m - n by omega)
  have e : b * (p.2.1 - p.1.1) * (m - n) = b * (m - n) * (p.2.1 - p.1.1) := Int.mul_right_comm _ _ _
  unfold atLeast at *
  rw [timN_diff (n := n)] at h
  rw [Int.sub_mul]
  omega
end
theorem most_node {p : (Int × Int) × (Int × Int)} (h : p.1.1 < p.2.1) {c : Int} : (atMost p p.1.1 c ↔ p.1.2 ≤ c) ∧ (atMost p p.2.1 c ↔ p.2.2 ≤ c) := by
  have hD : 0 < p.2.1 - p.1.1 := by omega
  unfold atMost
  rw [timN_first,timN_last]
  exact ⟨⟨fun h => Int.le_of_mul_le_mul_right h hD,fun h => Int.mul_le_mul_of_nonneg_right h (by omega)⟩,⟨fun h => Int.le_of_mul_le_mul_right h hD,fun h => Int.mul_le_mul_of_nonneg_right h (by omega)⟩⟩
theorem least_node {p : (Int × Int) × (Int × Int)} (h : p.1.1 < p.2.1) {c : Int} : (atLeast p p.1.1 c ↔ c ≤ p.1.2) ∧ (atLeast p p.2.1 c ↔ c ≤ p.2.2) := by
  have hD : 0 < p.2.1 - p.1.1 := by omega
  unfold atLeast
  rw [timN_first,timN_last]
  exact ⟨⟨fun h => Int.le_of_mul_le_mul_right h hD,fun h => Int.mul_le_mul_of_nonneg_right h (by omega)⟩,⟨fun h => Int.le_of_mul_le_mul_right h hD,fun h => Int.mul_le_mul_of_nonneg_right h (by omega)⟩⟩
section
variable {L : Int × Int} {l : List (Int × Int)} (h : MapOk l) (hR : RateOk L l)
include hR
theorem nodes_rate : ∀ {k i : Nat},i + k < l.length → L.1 * ((l.getD (i + k) (0,0)).1 - (l.getD i (0,0)).1) ≤ (l.getD (i + k) (0,0)).2 - (l.getD i (0,0)).2 ∧ (l.getD (i + k) (0,0)).2 - (l.getD i (0,0)).2 ≤ L.2 * ((l.getD (i + k) (0,0)).1 - (l.getD i (0,0)).1)
  | 0,i,_ => by simp
  | k + 1,i,hk => by
    have ih := nodes_rate (k := k) (i := i) (by omega)
    have st := hR (i + k) (by omega)
    rw [show i + k + 1 = i + (k + 1) by omega] at st
    generalize (l.getD (i + k) (0,0)).1 = p1 at *
    generalize (l.getD (i + (k + 1)) (0,0)).1 = p2 at *
    generalize (l.getD i (0,0)).1 = p0 at *
    have e1 : L.1 * (p2 - p0) = L.1 * (p1 - p0) + L.1 * (p2 - p1) := by rw [← Int.mul_add]; exact congrArg (L.1 * ·) (by omega)
    have e2 : L.2 * (p2 - p0) = L.2 * (p1 - p0) + L.2 * (p2 - p1) := by rw [← Int.mul_add]; exact congrArg (L.2 * ·) (by omega)
    omega
include h
theorem far_up {i j : Nat} (hij : i ≤ j) (hj : j + 1 < l.length) {n m : Int} (h1 : (l.getD i (0,0)).1 ≤ n ∧ n ≤ (l.getD (i + 1) (0,0)).1) (h2 : (l.getD j (0,0)).1 ≤ m ∧ m ≤ (l.getD (j + 1) (0,0)).1) (hnm : n ≤ m) {c : Int} :
    (atMost (pieceOf l i) n c → atMost (pieceOf l j) m (c + L.2 * (m - n))) ∧ (atLeast (pieceOf l i) n c → atLeast (pieceOf l j) m (c + L.1 * (m - n))) := by
  have ri := hR i (by omega)
  have rj := hR j hj
  by_cases e : i = j
  · subst e; exact ⟨most_up (p := pieceOf l i) ri hnm,least_up (p := pieceOf l i) ri hnm⟩
  have pi := h.posUp i (by omega)
  have pj := h.posUp j hj
  have nr := nodes_rate hR (k := j - (i + 1)) (i := i + 1) (by omega)
  rw [show i + 1 + (j - (i + 1)) = j by omega] at nr
  have sp : ∀ r : Int,r * (m - n) = r * ((l.getD (i + 1) (0,0)).1 - n) + r * ((l.getD j (0,0)).1 - (l.getD (i + 1) (0,0)).1) + r * (m - (l.getD j (0,0)).1) := fun r => by
    rw [← Int.mul_add,← Int.mul_add]; exact congrArg (r * ·) (by omega)
  constructor
  · intro hm
    have a1 := most_up (p := pieceOf l i) ri h1.2 hm
    have a2 := ((most_node (p := pieceOf l i) pi).2).1 a1
    have a3 : (pieceOf l i).2.2 = (l.getD (i + 1) (0,0)).2 := rfl
    rw [a3] at a2
    have a4 := ((most_node (p := pieceOf l j) pj (c := c + L.2 * ((l.getD (i + 1) (0,0)).1 - n) + L.2 * ((l.getD j (0,0)).1 - (l.getD (i + 1) (0,0)).1))).1).2 (by show (l.getD j (0,0)).2 ≤ _; omega)
    have a5 := most_up (p := pieceOf l j) rj h2.1 a4
    rw [sp L.2]
    rwa [show c + (L.2 * ((l.getD (i + 1) (0,0)).1 - n) + L.2 * ((l.getD j (0,0)).1 - (l.getD (i + 1) (0,0)).1) + L.2 * (m - (l.getD j (0,0)).1)) = c + L.2 * ((l.getD (i + 1) (0,0)).1 - n) + L.2 * ((l.getD j (0,0)).1 - (l.getD (i + 1) (0,0)).1) + L.2 * (m - (l.getD j (0,0)).1) by omega]
  · intro hm
    have a1 := least_up (p := pieceOf l i) ri h1.2 hm
    have a2 := ((least_node (p := pieceOf l i) pi).2).1 a1
    have a3 : (pieceOf l i).2.2 = (l.getD (i + 1) (0,0)).2 := rfl
    rw [a3] at a2
    have a4 := ((least_node (p := pieceOf l j) pj (c := c + L.1 * ((l.getD (i + 1) (0,0)).1 - n) + L.1 * ((l.getD j (0,0)).1 - (l.getD (i + 1) (0,0)).1))).1).2 (by show _ ≤ (l.getD j (0,0)).2; omega)
    have a5 := least_up (p := pieceOf l j) rj h2.1 a4
    rw [sp L.1]
    rwa [show c + (L.1 * ((l.getD (i + 1) (0,0)).1 - n) + L.1 * ((l.getD j (0,0)).1 - (l.getD (i + 1) (0,0)).1) + L.1 * (m - (l.getD j (0,0)).1)) = c + L.1 * ((l.getD (i + 1) (0,0)).1 - n) + L.1 * ((l.getD j (0,0)).1 - (l.getD (i + 1) (0,0)).1) + L.1 * (m - (l.getD j (0,0)).1) by omega]
theorem far_down {i j : Nat} (hij : i ≤ j) (hj : j + 1 < l.length) {n m : Int} (h1 : (l.getD i (0,0)).1 ≤ n ∧ n ≤ (l.getD (i + 1) (0,0)).1) (h2 : (l.getD j (0,0)).1 ≤ m ∧ m ≤ (l.getD (j + 1) (0,0)).1) (hnm : n ≤ m) {c : Int} :
    (atMost (pieceOf l j) m c → atMost (pieceOf l i) n (c - L.1 * (m - n))) ∧ (atLeast (pieceOf l j) m c → atLeast (pieceOf l i) n (c - L.2 * (m - n))) := by
  have ri := hR i (by omega)
  have rj := hR j hj
  by_cases e : i = j
  · subst e; exact ⟨most_down (p := pieceOf l i) ri hnm,least_down (p := pieceOf l i) ri hnm⟩
  have pi := h.posUp i (by omega)
  have pj := h.posUp j hj
  have nr := nodes_rate hR (k := j - (i + 1)) (i := i + 1) (by omega)
  rw [show i + 1 + (j - (i + 1)) = j by omega] at nr
  have sp : ∀ r : Int,r * (m - n) = r * ((l.getD (i + 1) (0,0)).1 - n) + r * ((l.getD j (0,0)).1 - (l.getD (i + 1) (0,0)).1) + r * (m - (l.getD j (0,0)).1) := fun r => by
    rw [← Int.mul_add,← Int.mul_add]; exact congrArg (r * ·) (by omega)
  constructor
  · intro hm
    have a1 := most_down (p := pieceOf l j) rj h2.1 hm
    have a2 := ((most_node (p := pieceOf l j) pj).1).1 a1
    have a3 : (pieceOf l j).1.2 = (l.getD j (0,0)).2 := rfl
    rw [a3] at a2
    have a4 := ((most_node (p := pieceOf l i) pi (c := c - L.1 * (m - (l.getD j (0,0)).1) - L.1 * ((l.getD j (0,0)).1 - (l.getD (i + 1) (0,0)).1))).2).2 (by show (l.getD (i + 1) (0,0)).2 ≤ _; omega)
    have a5 := most_down (p := pieceOf l i) ri h1.2 a4
    rw [sp L.1]
    rwa [show c - (L.1 * ((l.getD (i + 1) (0,0)).1 - n) + L.1 * ((l.getD j (0,0)).1 - (l.getD (i + 1) (0,0)).1) + L.1 * (m - (l.getD j (0,0)).1)) = c - L.1 * (m - (l.getD j (0,0)).1) - L.1 * ((l.getD j (0,0)).1 - (l.getD (i + 1) (0,0)).1) - L.1 * ((l.getD (i + 1) (0,0)).1 - n) by omega]
  · intro hm
    have a1 := least_down (p := pieceOf l j) rj h2.1 hm
    have a2 := ((least_node (p := pieceOf l j) pj).1).1 a1
    have a3 : (pieceOf l j).1.2 = (l.getD j (0,0)).2 := rfl
    rw [a3] at a2
    have a4 := ((least_node (p := pieceOf l i) pi (c := c - L.2 * (m - (l.getD j (0,0)).1) - L.2 * ((l.getD j (0,0)).1 - (l.getD (i + 1) (0,0)).1))).2).2 (by show _ ≤ (l.getD (i + 1) (0,0)).2; omega)
    have a5 := least_down (p := pieceOf l i) ri h1.2 a4
    rw [sp L.2]
    rwa [show c - (L.2 * ((l.getD (i + 1) (0,0)).1 - n) + L.2 * ((l.getD j (0,0)).1 - (l.getD (i + 1) (0,0)).1) + L.2 * (m - (l.getD j (0,0)).1)) = c - L.2 * (m - (l.getD j (0,0)).1) - L.2 * ((l.getD j (0,0)).1 - (l.getD (i + 1) (0,0)).1) - L.2 * ((l.getD (i + 1) (0,0)).1 - n) by omega]
theorem by_encloses {x : Mark} (hL : L.1 ≤ L.2) {q : Int} (hx : (l.getD 0 (0,0)).1 ≤ x.1 ∧ x.1 ≤ (l.getD (l.length - 1) (0,0)).1) (hq : (l.getD 0 (0,0)).1 ≤ q ∧ q ≤ (l.getD (l.length - 1) (0,0)).1)
    (hm : atLeast (pieceP l x.1) x.1 x.2.1 ∧ atMost (pieceP l x.1) x.1 x.2.2) : atLeast (pieceP l q) q (byR L x q).1 ∧ atMost (pieceP l q) q (byR L x q).2 := by
  have hlo := h.lo
  obtain ⟨a1,a2⟩ := atPos_in (l := l) (t := x.1) (k := l.length - 2) (i := 0) (by omega) hx.1
  have a3 := atPos_up (l := l) (t := x.1) (k := l.length - 2) (i := 0) (by omega) hx.2
  obtain ⟨b1,b2⟩ := atPos_in (l := l) (t := q) (k := l.length - 2) (i := 0) (by omega) hq.1
  have b3 := atPos_up (l := l) (t := q) (k := l.length - 2) (i := 0) (by omega) hq.2
  unfold pieceP at *
  by_cases hd : 0 ≤ q - x.1
  · have hij := atP_mono (l := l) (show x.1 ≤ q by omega) (k := l.length - 2) (i := 0)
    rw [byR_up hL hd]
    have := far_up h hR hij b1 ⟨a2,a3⟩ ⟨b2,b3⟩ (show x.1 ≤ q by omega) (c := x.2.1)
    have t2 := far_up h hR hij b1 ⟨a2,a3⟩ ⟨b2,b3⟩ (show x.1 ≤ q by omega) (c := x.2.2)
    exact ⟨this.2 hm.1,t2.1 hm.2⟩
  · have hij := atP_mono (l := l) (show q ≤ x.1 by omega) (k := l.length - 2) (i := 0)
    rw [byR_down hL (by omega)]
    have := far_down h hR hij a1 ⟨b2,b3⟩ ⟨a2,a3⟩ (show q ≤ x.1 by omega) (c := x.2.1)
    have t2 := far_down h hR hij a1 ⟨b2,b3⟩ ⟨a2,a3⟩ (show q ≤ x.1 by omega) (c := x.2.2)
    exact ⟨this.2 hm.1,t2.1 hm.2⟩
end
theorem least_lo {p : (Int × Int) × (Int × Int)} (h : p.1.1 < p.2.1) {n c : Int} : atLeast p n c ↔ c ≤ timLo p n := by
  unfold atLeast timLo
  exact (Int.le_ediv_iff_mul_le (show 0 < p.2.1 - p.1.1 by omega)).symm
theorem most_hi {p : (Int × Int) × (Int × Int)} (h : p.1.1 < p.2.1) {n c : Int} : atMost p n c ↔ timHi p n ≤ c := by
  have e := Int.le_ediv_iff_mul_le (a := -c) (b := -timN p n) (show 0 < p.2.1 - p.1.1 by omega)
  unfold atMost timHi
  rw [Int.neg_mul] at e
  constructor
  · intro h1
    have := e.2 (by omega)
    omega
  · intro h1
    have := e.1 (by omega)
    omega
end Go.Lq

namespace Go.Lq
theorem enc_succ {L : Int × Int} {M : List Mark} {q : Int} {i : Nat} (h : 0 < i) : encTo L M q (i + 1) = (max (encTo L M q i).1 (byR L (M.getD i (0,0,0)) q).1,min (encTo L M q i).2 (byR L (M.getD i (0,0,0)) q).2) := by
  obtain ⟨j,rfl⟩ : ∃ j,i = j + 1 := ⟨i - 1,by omega⟩
  rfl
theorem enc_le {L : Int × Int} {M : List Mark} {q a b : Int} : ∀ {n : Nat},0 < n → (∀ i,i < n → (byR L (M.getD i (0,0,0)) q).1 ≤ a ∧ b ≤ (byR L (M.getD i (0,0,0)) q).2) → (encTo L M q n).1 ≤ a ∧ b ≤ (encTo L M q n).2
  | n + 1,_,h => by
    by_cases h0 : n = 0
    · subst h0; exact h 0 (by omega)
    · have ih := enc_le (L := L) (M := M) (q := q) (a := a) (b := b) (n := n) (by omega) (fun i hi => h i (by omega))
      have := h n (by omega)
      rw [enc_succ (by omega)]
      dsimp only
      omega
def NoClash (L : Int × Int) (M : List Mark) : Prop := ∀ i k,i < k → k < M.length → clashB L (M.getD i (0,0,0)) (M.getD k (0,0,0)) = false
theorem EvOk.ups {L : Int × Int} {M : List Mark} (h : EvOk L M) : ∀ {k i : Nat},i + k + 1 < M.length → (M.getD i (0,0,0)).1 < (M.getD (i + k + 1) (0,0,0)).1
  | 0,i,hi => h.up i hi
  | k + 1,i,hi => Int.lt_trans (h.ups (k := k) (by omega)) (h.up (i + k + 1) hi)
theorem EvOk.lt {L : Int × Int} {M : List Mark} (h : EvOk L M) {i j : Nat} (hij : i < j) (hj : j < M.length) : (M.getD i (0,0,0)).1 < (M.getD j (0,0,0)).1 := by
  have := h.ups (k := j - i - 1) (i := i) (by omega)
  rwa [show i + (j - i - 1) + 1 = j by omega] at this
section
variable {L : Int × Int} {M : List Mark} (h : EvOk L M)
include h
end
end Go.Lq

namespace Go.Lq
structure AscIn (n i : Nat) (l : List Nat) : Prop where
  asc : l.Pairwise (· < ·)
  mem : ∀ x ∈ l,i ≤ x ∧ x < n
def beforeL : List Nat → List Nat → Bool
  | [],b => decide (0 < b.length)
  | _ :: _,[] => false
  | a :: s1,b :: s2 => if a = b then beforeL s1 s2 else decide (a < b)
structure Least (p : List Nat → Bool) (n : Nat) (a : List Nat) : Prop where
  asc : AscIn n 0 a
  is : p a = true
  min : ∀ b,AscIn n 0 b → p b = true → a.length < b.length ∨ (a.length = b.length ∧ (b = a ∨ beforeL a b = true))
end Go.Lq



namespace Go.Lq
abbrev mP (M : List Mark) (i : Nat) : Int := (M.getD i (0,0,0)).1
def inR (M : List Mark) (i : Nat) (t : Int) : Prop := (M.getD i (0,0,0)).2.1 ≤ t ∧ t ≤ (M.getD i (0,0,0)).2.2
def pieceK (M : List Mark) (i k : Nat) (s t : Int) : (Int × Int) × (Int × Int) := ((mP M i,s),(mP M k,t))
def keepsB (L : Int × Int) (p : (Int × Int) × (Int × Int)) : Bool := decide (L.1 * (p.2.1 - p.1.1) ≤ p.2.2 - p.1.2 ∧ p.2.2 - p.1.2 ≤ L.2 * (p.2.1 - p.1.1))
def meetsB (p : (Int × Int) × (Int × Int)) (x : Mark) : Bool := decide (x.2.1 * (p.2.1 - p.1.1) ≤ timN p x.1 ∧ timN p x.1 ≤ x.2.2 * (p.2.1 - p.1.1))
structure Joins (L : Int × Int) (M : List Mark) (i k : Nat) (s t : Int) : Prop where
  keeps : keepsB L (pieceK M i k s t) = true
  meets : ∀ j,i < j → j < k → meetsB (pieceK M i k s t) (M.getD j (0,0,0)) = true
inductive Chain (L : Int × Int) (M : List Mark) : Nat → Int → Nat → Prop
  | last {i : Nat} {s : Int} (hi : i + 1 = M.length) (h : inR M i s) : Chain L M i s 1
  | step {i k : Nat} {s t : Int} {n : Nat} (h : inR M i s) (hik : i < k) (hj : Joins L M i k s t) (hc : Chain L M k t n) : Chain L M i s (n + 1)
inductive Chain0 (L : Int × Int) (M : List Mark) : Nat → Int → Nat → Prop
  | first {s : Int} (h0 : 0 < M.length) (h : inR M 0 s) : Chain0 L M 0 s 1
  | step {i k : Nat} {s t : Int} {n : Nat} (hk : k < M.length) (h : inR M k t) (hik : i < k) (hj : Joins L M i k s t) (hc : Chain0 L M i s n) : Chain0 L M k t (n + 1)
theorem Chain.inR {L : Int × Int} {M : List Mark} {i : Nat} {s : Int} {n : Nat} (h : Chain L M i s n) : Go.Lq.inR M i s := by cases h <;> assumption
theorem Chain.lt {L : Int × Int} {M : List Mark} {i : Nat} {s : Int} {n : Nat} (h : Chain L M i s n) : i < M.length ∧ 0 < n := by
  induction h with
  | last hi _ => omega
  | step _ hik _ _ ih => omega
theorem Chain0.inR {L : Int × Int} {M : List Mark} {i : Nat} {s : Int} {n : Nat} (h : Chain0 L M i s n) : Go.Lq.inR M i s ∧ i < M.length ∧ 0 < n := by
  cases h with
  | first h0 h => exact ⟨h,h0,by omega⟩
  | step hk h _ _ _ => exact ⟨h,hk,by omega⟩
end Go.Lq

namespace Go.Lq
inductive ChainL (L : Int × Int) (M : List Mark) : Nat → Int → List (Int × Int) → Prop
  | last {i : Nat} {s : Int} (hi : i + 1 = M.length) (h : inR M i s) : ChainL L M i s [(mP M i,s)]
  | step {i k : Nat} {s t : Int} {l : List (Int × Int)} (h : inR M i s) (hik : i < k) (hj : Joins L M i k s t) (hc : ChainL L M k t l) : ChainL L M i s ((mP M i,s) :: l)
structure CourseOf (L : Int × Int) (M : List Mark) (i : Nat) (s : Int) (l : List (Int × Int)) : Prop where
  head : l.getD 0 (0,0) = (mP M i,s)
  pos : 0 < l.length
  few : l.length ≤ M.length - i
  one : l.length = 1 → i + 1 = M.length
  nodes : ∀ j,j < l.length → ∃ k,i ≤ k ∧ k < M.length ∧ (l.getD j (0,0)).1 = mP M k ∧ inR M k (l.getD j (0,0)).2
  up : ∀ j,j + 1 < l.length → (l.getD j (0,0)).1 < (l.getD (j + 1) (0,0)).1 ∧ keepsB L (pieceOf l j) = true
  marks : ∀ k,i ≤ k → k < M.length → 2 ≤ l.length → ∃ j,j + 1 < l.length ∧ (l.getD j (0,0)).1 ≤ mP M k ∧ mP M k ≤ (l.getD (j + 1) (0,0)).1 ∧ meetsB (pieceOf l j) (M.getD k (0,0,0)) = true
  endAt : (l.getD (l.length - 1) (0,0)).1 = mP M (M.length - 1)
theorem CourseOf.mapOk {L : Int × Int} {M : List Mark} (he : EvOk L M) {i : Nat} {s : Int} {l : List (Int × Int)} (h : CourseOf L M i s l) (h2 : 2 ≤ l.length) : MapOk l where
  lo := h2
  hi := by have := h.few; have := he.len; omega
  pos := fun j hj => by
    obtain ⟨k,_,hk,e,_⟩ := h.nodes j hj
    rw [e]; exact he.pos k hk
  time := fun j hj => by
    obtain ⟨k,_,hk,_,hr⟩ := h.nodes j hj
    have := he.t1 k hk
    have := he.t2 k hk
    have := hr.1
    have := hr.2
    omega
  posUp := fun j hj => (h.up j hj).1
  timeUp := fun j hj => by
    obtain ⟨hp,hk⟩ := h.up j hj
    have hk' := (of_decide_eq_true hk).1
    have e1 : (pieceOf l j).2.1 - (pieceOf l j).1.1 = (l.getD (j + 1) (0,0)).1 - (l.getD j (0,0)).1 := rfl
    have e2 : (pieceOf l j).2.2 - (pieceOf l j).1.2 = (l.getD (j + 1) (0,0)).2 - (l.getD j (0,0)).2 := rfl
    rw [e1,e2] at hk'
    have hl := he.lo
    have m1 := Int.mul_le_mul hl.1 (show 1 ≤ (l.getD (j + 1) (0,0)).1 - (l.getD j (0,0)).1 by omega) (by omega) (by omega)
    omega
theorem CourseOf.rate {L : Int × Int} {M : List Mark} {i : Nat} {s : Int} {l : List (Int × Int)} (h : CourseOf L M i s l) : RateOk L l := fun j hj => of_decide_eq_true (h.up j hj).2
theorem least_any {l : List (Int × Int)} (h : MapOk l) {n c : Int} {j : Nat} (hj : j + 1 < l.length) (ha : (l.getD j (0,0)).1 ≤ n) (hb : n ≤ (l.getD (j + 1) (0,0)).1) :
    (atLeast (pieceP l n) n c ↔ atLeast (pieceOf l j) n c) ∧ (atMost (pieceP l n) n c ↔ atMost (pieceOf l j) n c) := by
  have hlo := h.lo
  have h0 : (l.getD 0 (0,0)).1 ≤ n := Int.le_trans (h.posLe (Nat.zero_le j) (by omega)) ha
  obtain ⟨a1,_⟩ := atPos_in (l := l) (t := n) (k := l.length - 2) (i := 0) (by omega) h0
  have e1 := timLo_of h hj ha hb
  have e2 := timHi_of h hj ha hb
  unfold mapTimLo at e1
  unfold mapTimHi at e2
  have hpP : (pieceP l n).1.1 < (pieceP l n).2.1 := (h.piece a1).pos
  have hpj : (pieceOf l j).1.1 < (pieceOf l j).2.1 := (h.piece hj).pos
  rw [least_lo hpP,least_lo hpj,most_hi hpP,most_hi hpj,e1,e2]
  exact ⟨Iff.rfl,Iff.rfl⟩
theorem CourseOf.meets {L : Int × Int} {M : List Mark} (he : EvOk L M) {i : Nat} {s : Int} {l : List (Int × Int)} (h : CourseOf L M i s l) (h2 : 2 ≤ l.length) {k : Nat} (hik : i ≤ k) (hk : k < M.length) :
    atLeast (pieceP l (mP M k)) (mP M k) (M.getD k (0,0,0)).2.1 ∧ atMost (pieceP l (mP M k)) (mP M k) (M.getD k (0,0,0)).2.2 := by
  obtain ⟨j,h3,h4,h5,h6⟩ := h.marks k hik hk h2
  have hm := h.mapOk he h2
  have h7 := of_decide_eq_true h6
  exact ⟨(least_any hm h3 h4 h5).1.2 h7.1,(least_any hm h3 h4 h5).2.2 h7.2⟩
end Go.Lq

namespace Go.Lq
abbrev Way := Nat × (Int × Int) × Nat
def meetsAll (p : (Int × Int) × (Int × Int)) (M : List Mark) (j : Nat) : Nat → Bool
  | 0 => true
  | n + 1 => meetsB p (M.getD j (0,0,0)) && meetsAll p M (j + 1) n
def joinsB (L : Int × Int) (M : List Mark) (i k : Nat) (s t : Int) : Bool := keepsB L (pieceK M i k s t) && meetsAll (pieceK M i k s t) M (i + 1) (k - i - 1)
def shStep (W : Nat → Int → Option Nat) (L : Int × Int) (M : List Mark) (i : Nat) (s : Int) (k : Nat) (t : Int) (out : Way) : Way :=
  match W k t with
  | some w => if (out.1 = 0 ∨ w + 1 < out.1) ∧ joinsB L M i k s t = true then (w + 1,(mP M k,t),k) else out
  | none => out
def shRow (W : Nat → Int → Option Nat) (L : Int × Int) (M : List Mark) (i : Nat) (s : Int) (k : Nat) : Nat → Int → Way → Way
  | 0,_,out => out
  | n + 1,t,out => shRow W L M i s k n (t + 1) (shStep W L M i s k t out)
def widthN (M : List Mark) (k : Nat) : Nat := ((M.getD k (0,0,0)).2.2 - (M.getD k (0,0,0)).2.1 + 1).toNat
def shAll (W : Nat → Int → Option Nat) (L : Int × Int) (M : List Mark) (i : Nat) (s : Int) : Nat → Nat → Way → Way
  | 0,_,out => out
  | n + 1,k,out => shAll W L M i s n (k + 1) (shRow W L M i s k (widthN M k) (M.getD k (0,0,0)).2.1 out)
structure Kept (W : Nat → Int → Option Nat) (L : Int × Int) (M : List Mark) (i : Nat) (s : Int) (C : Nat → Int → Prop) (out : Way) : Prop where
  is : 0 < out.1 → ∃ k t,C k t ∧ joinsB L M i k s t = true ∧ W k t = some (out.1 - 1) ∧ out.2 = ((mP M k,t),k)
  min : ∀ k t w,C k t → joinsB L M i k s t = true → W k t = some w → 0 < out.1 ∧ out.1 ≤ w + 1
section
variable {W : Nat → Int → Option Nat} {L : Int × Int} {M : List Mark} {i : Nat} {s : Int}
theorem Kept.zero {z : (Int × Int) × Nat} : Kept W L M i s (fun _ _ => False) (0,z) := ⟨fun h => absurd h (Nat.lt_irrefl 0),fun _ _ _ h => h.elim⟩
theorem Kept.step {C : Nat → Int → Prop} {out : Way} (h : Kept W L M i s C out) (k : Nat) (t : Int) : Kept W L M i s (fun a b => C a b ∨ (a = k ∧ b = t)) (shStep W L M i s k t out) := by
  unfold shStep
  cases hw : W k t with
  | none =>
    refine ⟨fun h0 => ?_,fun a b w hc hj hab => ?_⟩
    · obtain ⟨a,b,h1,h2⟩ := h.is h0
      exact ⟨a,b,.inl h1,h2⟩
    · rcases hc with hc | ⟨rfl,rfl⟩
      · exact h.min a b w hc hj hab
      · rw [hw] at hab; cases hab
  | some v =>
    dsimp only
    by_cases hc : (out.1 = 0 ∨ v + 1 < out.1) ∧ joinsB L M i k s t = true
    · rw [if_pos hc]
      refine ⟨fun _ => ⟨k,t,.inr ⟨rfl,rfl⟩,hc.2,hw,rfl⟩,fun a b w hab hj hw' => ?_⟩
      show 0 < v + 1 ∧ v + 1 ≤ w + 1
      rcases hab with hab | ⟨rfl,rfl⟩
      · have := h.min a b w hab hj hw'
        have := hc.1
        omega
      · rw [hw] at hw'; cases hw'; omega
    · rw [if_neg hc]
      refine ⟨fun h0 => ?_,fun a b w hab hj hw' => ?_⟩
      · obtain ⟨a,b,h1,h2⟩ := h.is h0
        exact ⟨a,b,.inl h1,h2⟩
      · rcases hab with hab | ⟨rfl,rfl⟩
        · exact h.min a b w hab hj hw'
        · rw [hw] at hw'
          have e : v = w := by simpa using hw'
          have : ¬ (out.1 = 0 ∨ v + 1 < out.1) := fun x => hc ⟨x,hj⟩
          omega
theorem Kept.congr {C D : Nat → Int → Prop} {out : Way} (h : Kept W L M i s C out) (e : ∀ k t,C k t ↔ D k t) : Kept W L M i s D out :=
  ⟨fun h0 => by obtain ⟨a,b,h1,h2⟩ := h.is h0; exact ⟨a,b,(e a b).1 h1,h2⟩,fun a b w hc => h.min a b w ((e a b).2 hc)⟩
theorem Kept.row {k : Nat} : ∀ {n : Nat} {t : Int} {C : Nat → Int → Prop} {out : Way},Kept W L M i s C out → Kept W L M i s (fun a b => C a b ∨ (a = k ∧ t ≤ b ∧ b < t + n)) (shRow W L M i s k n t out)
  | 0,t,C,out,h => h.congr fun a b => ⟨.inl,fun x => by rcases x with x | x; exact x; omega⟩
  | n + 1,t,C,out,h => by
    unfold shRow
    refine (Kept.row (n := n) (t := t + 1) (h.step k t)).congr fun a b => ?_
    constructor
    · rintro ((x | ⟨rfl,rfl⟩) | ⟨rfl,x⟩)
      · exact .inl x
      · exact .inr ⟨rfl,by omega⟩
      · exact .inr ⟨rfl,by omega⟩
    · rintro (x | ⟨rfl,x⟩)
      · exact .inl (.inl x)
      · by_cases e : b = t
        · exact .inl (.inr ⟨rfl,e⟩)
        · exact .inr ⟨rfl,by omega⟩
theorem Kept.all : ∀ {n k : Nat} {C : Nat → Int → Prop} {out : Way},Kept W L M i s C out → Kept W L M i s (fun a b => C a b ∨ (k ≤ a ∧ a < k + n ∧ inR M a b)) (shAll W L M i s n k out)
  | 0,k,C,out,h => h.congr fun a b => ⟨.inl,fun x => by rcases x with x | x; exact x; omega⟩
  | n + 1,k,C,out,h => by
    unfold shAll
    refine (Kept.all (n := n) (k := k + 1) (h.row (k := k) (n := widthN M k) (t := (M.getD k (0,0,0)).2.1))).congr fun a b => ?_
    have hr : inR M k b ↔ (M.getD k (0,0,0)).2.1 ≤ b ∧ b < (M.getD k (0,0,0)).2.1 + (widthN M k : Int) := by unfold inR widthN; omega
    constructor
    · rintro ((x | ⟨rfl,x⟩) | ⟨x,y,z⟩)
      · exact .inl x
      · exact .inr ⟨Nat.le_refl _,by omega,hr.2 x⟩
      · exact .inr ⟨by omega,by omega,z⟩
    · rintro (x | ⟨x,y,z⟩)
      · exact .inl (.inl x)
      · by_cases e : a = k
        · subst e; exact .inl (.inr ⟨rfl,hr.1 z⟩)
        · exact .inr ⟨by omega,by omega,z⟩
end
def zeroW : Way := (0,(0,0),0)
noncomputable def tabN (L : Int × Int) (M : List Mark) : Nat → Nat → Int → Option Way
  | 0,_,_ => none
  | r + 1,k,t => if k = M.length - 1 - r then
      (if (M.getD k (0,0,0)).2.1 ≤ t ∧ t ≤ (M.getD k (0,0,0)).2.2 then (if r = 0 then some (1,(0,0),0) else
        if 0 < (shAll (fun a b => (tabN L M r a b).map (·.1)) L M k t r (k + 1) zeroW).1 then some (shAll (fun a b => (tabN L M r a b).map (·.1)) L M k t r (k + 1) zeroW) else none) else none)
    else tabN L M r k t
end Go.Lq

namespace Go.Lq
open Go
open Go.Proofs
def markV (x : Mark) : Value := .agg ⟨[.int .i64 x.1,.int .i64 x.2.1,.int .i64 x.2.2]⟩
def evC (L : Int × Int) (v : Value) : List Value := [.int .i64 L.1,.int .i64 L.2,v]
theorem Sl.atom {H : AHeap} {sz n : Nat} {vs : List Value} {v : Value} (h : Sl H sz n vs v) : isAtom v = true := by
  rcases h.2 with ⟨rfl,_⟩ | ⟨id,off,c,rfl,_⟩ <;> rfl
theorem Tris.atom {H : AHeap} {M : List Mark} {v : Value} (h : Tris H M v) : isAtom v = true := Sl.atom h
section
variable {H : AHeap}
end
end Go.Lq

namespace Go.Lq
open Go
open Go.Proofs
theorem Tris.from {H : AHeap} {M : List Mark} {v : Value} (h : Tris H M v) {H' : AHeap} {lo : Int} {k : IntKind} (hn : 0 < M.length) (h0 : 0 ≤ lo) (h1 : lo ≤ M.length) : sliceR 3 v (some (.int k lo)) none none H' = some (fromV 3 v lo.toNat,H') := Sl.from h hn h0 h1
theorem Tris.rest {H : AHeap} {M : List Mark} {v : Value} (h : Tris H M v) {lo : Nat} (h1 : lo ≤ M.length) : Tris H (M.drop lo) (fromV 3 v lo) := by
  have := Sl.rest h h1
  unfold Tris
  rw [List.length_drop,← flat3_drop]
  exact this
section
variable {H : AHeap} {L : Int × Int} {M : List Mark} {v : Value}
end
end Go.Lq

namespace Go.Lq
open Go
open Go.Proofs
theorem Keeps.of {k : Nat} {G H : AHeap} (h : Ext G H) : Keeps k G H := Keeps.of_ext h
section
variable {H : AHeap} {L : Int × Int} {M : List Mark} {v : Value}
end
end Go.Lq


namespace Go.Lq
open Go
open Go.Proofs
def subV (sz : Nat) (v : Value) (lo hi : Nat) : Value := match v with | .slice (some ⟨id,off,none⟩) _ _ => .slice (some ⟨id,off + lo * sz,none⟩) (hi - lo) (if hi = lo then 1 else hi - lo) | v => v
theorem Sl.part {H : AHeap} {sz n : Nat} {vs : List Value} {v : Value} (h : Sl H sz n vs v) {H' : AHeap} {lo hi : Nat} (hn : 0 < n) (h0 : lo ≤ hi) (h1 : hi ≤ n) :
    sliceR sz v (some (.int .i64 (lo : Int))) (some (.int .i64 (hi : Int))) none H' = some (subV sz v lo hi,H') := by
  rcases h.2 with ⟨rfl,rfl⟩ | ⟨id,off,c,rfl,_⟩
  · omega
  · have e1 : ((hi : Int) - (lo : Int)).toNat = hi - lo := by omega
    have e2 : ((hi : Int) = (lo : Int)) = (hi = lo) := by simp; omega
    have hc : (0 : Int) ≤ (lo : Int) ∧ (lo : Int) ≤ (hi : Int) ∧ (hi : Int) ≤ (n : Int) := by omega
    simp only [sliceR,sliceA,loA,hiA,if_pos hc,Option.map_some,subV,e1,e2,Int.toNat_natCast]
theorem Tris.part {H : AHeap} {M : List Mark} {v : Value} (h : Tris H M v) {H' : AHeap} {lo hi : Nat} (hn : 0 < M.length) (h0 : lo ≤ hi) (h1 : hi ≤ M.length) :
    sliceR 3 v (some (.int .i64 (lo : Int))) (some (.int .i64 (hi : Int))) none H' = some (subV 3 v lo hi,H') := Sl.part h hn h0 h1
section
variable {H : AHeap} {L : Int × Int} {M : List Mark} {v : Value}
end
end Go.Lq

namespace Go.Lq
open Go
open Go.Proofs
def wayV (w : Way) : Value := .agg ⟨[.int .i64 (w.1 : Int),.int .i64 w.2.1.1,.int .i64 w.2.1.2,.int .i64 (w.2.2 : Int)]⟩
attribute [go_sem] Option.isSome_none Option.isSome_some
section
variable {H : AHeap} {L : Int × Int} {M : List Mark} {v : Value}
end
end Go.Lq

namespace Go.Lq
open Go
open Go.Proofs
theorem Chain.few {L : Int × Int} {M : List Mark} {i : Nat} {s : Int} {n : Nat} (h : Chain L M i s n) : n + i ≤ M.length := by
  induction h with
  | last hi _ => omega
  | step _ hik _ _ ih => omega
noncomputable def tabK (L : Int × Int) (M : List Mark) (k : Nat) (t : Int) : Option Way := tabN L M (M.length - k) k t
section
variable {L : Int × Int} {M : List Mark} {k : Nat} {t : Int}
end
theorem mP_inj {L : Int × Int} {M : List Mark} (h : EvOk L M) {i k : Nat} (hi : i < M.length) (hk : k < M.length) (e : mP M i = mP M k) : i = k := by
  rcases Nat.lt_trichotomy i k with a | a | a
  · have := h.lt a hk; unfold mP at e; omega
  · exact a
  · have := h.lt a hi; unfold mP at e; omega
structure MapAt (L : Int × Int) (M : List Mark) (i : Nat) (t : Int) (m : Ents) : Prop where
  get : ∀ k b,k < M.length → (i < k ∨ (k = i ∧ b < t)) → inR M k b → getP m (mP M k,b) = (tabK L M k b).map wayV
  only : ∀ p,getP m p ≠ none → ∃ k b,p = (mP M k,b) ∧ k < M.length ∧ (i < k ∨ (k = i ∧ b < t)) ∧ inR M k b
section
variable {L : Int × Int} {M : List Mark} {i : Nat} {t : Int} {m : Ents}
theorem MapAt.start (hi : i + 1 = M.length) (ht : t ≤ (M.getD i (0,0,0)).2.1) : MapAt L M i t [] :=
  ⟨fun k b hk h hr => by
    unfold inR at hr
    rcases h with h | ⟨rfl,h⟩ <;> omega,fun p h => absurd (getP_none p) h⟩
theorem MapAt.some (he : EvOk L M) (h : MapAt L M i t m) (hi : i < M.length) (hr : inR M i t) {w : Way} (hw : tabK L M i t = .some w) : MapAt L M i (t + 1) (putP (mP M i,t) (wayV w) m) := by
  refine ⟨fun k b hk hc hrb => ?_,fun p hp => ?_⟩
  · rw [getP_put]
    by_cases e : (mP M i,t) = (mP M k,b)
    · rw [if_pos e]
      have e1 := mP_inj he hi hk (Prod.mk.inj e).1
      have e2 : t = b := (Prod.mk.inj e).2
      subst e1; subst e2
      rw [hw]; rfl
    · rw [if_neg e]
      refine h.get k b hk ?_ hrb
      rcases hc with hc | ⟨rfl,hc⟩
      · exact .inl hc
      · refine .inr ⟨rfl,?_⟩
        by_cases e2 : b = t
        · subst e2; exact absurd rfl e
        · omega
  · rw [getP_put] at hp
    by_cases e : (mP M i,t) = p
    · exact ⟨i,t,e.symm,hi,.inr ⟨rfl,by omega⟩,hr⟩
    · rw [if_neg e] at hp
      obtain ⟨k,b,e,hk,hc,hr⟩ := h.only p hp
      refine ⟨k,b,e,hk,?_,hr⟩
      rcases hc with hc | ⟨rfl,hc⟩
      · exact .inl hc
      · exact .inr ⟨rfl,by omega⟩
theorem MapAt.none (he : EvOk L M) (h : MapAt L M i t m) (hi : i < M.length) (hw : tabK L M i t = .none) : MapAt L M i (t + 1) m := by
  refine ⟨fun k b hk hc hrb => ?_,fun p hp => ?_⟩
  · by_cases e : k = i ∧ b = t
    · obtain ⟨rfl,rfl⟩ := e
      rw [hw]
      cases hp : getP m (mP M k,b) with
      | none => rfl
      | some x =>
        obtain ⟨k',b',e,hk',hc',_⟩ := h.only _ (by rw [hp]; simp)
        have e1 := mP_inj he hk hk' (Prod.mk.inj e).1
        have e2 : b = b' := (Prod.mk.inj e).2
        omega
    · refine h.get k b hk ?_ hrb
      rcases hc with hc | ⟨rfl,hc⟩
      · exact .inl hc
      · refine .inr ⟨rfl,?_⟩
        by_cases e2 : b = t
        · exact absurd ⟨rfl,e2⟩ e
        · omega
  · obtain ⟨k,b,e,hk,hc,hr⟩ := h.only p hp
    refine ⟨k,b,e,hk,?_,hr⟩
    rcases hc with hc | ⟨rfl,hc⟩
    · exact .inl hc
    · exact .inr ⟨rfl,by omega⟩
theorem MapAt.any (h : MapAt L M i t m) (p : Int × Int) : ∃ o : Option Way,getP m p = o.map wayV := by
  cases hp : getP m p with
  | none => exact ⟨.none,rfl⟩
  | some x =>
    obtain ⟨k,b,rfl,hk,hc,hr⟩ := h.only p (by rw [hp]; simp)
    have := h.get k b hk hc hr
    rw [hp] at this
    exact ⟨_,this⟩
end
def BestAt (L : Int × Int) (M : List Mark) (t : Int) (best : Int × Int) : Prop :=
  (best = (0,0) ∧ ∀ b,inR M 0 b → b < t → tabK L M 0 b = none) ∨
  ∃ b w,best = (mP M 0,b) ∧ inR M 0 b ∧ b < t ∧ tabK L M 0 b = some w ∧ ∀ b' w',inR M 0 b' → b' < t → tabK L M 0 b' = some w' → w.1 ≤ w'.1
section
variable {L : Int × Int} {M : List Mark} {t : Int} {best : Int × Int}
theorem BestAt.start (ht : t ≤ (M.getD 0 (0,0,0)).2.1) : BestAt L M t (0,0) := .inl ⟨rfl,fun b hb h => by unfold inR at hb; omega⟩
theorem BestAt.skip (h : BestAt L M t best) (hw : tabK L M 0 t = none) : BestAt L M (t + 1) best := by
  rcases h with ⟨h1,h2⟩ | ⟨b,w,h1,h2,h3,h4,h5⟩
  · refine .inl ⟨h1,fun b hb h => ?_⟩
    by_cases e : b = t
    · subst e; exact hw
    · exact h2 b hb (by omega)
  · refine .inr ⟨b,w,h1,h2,by omega,h4,fun b' w' hb h hw' => ?_⟩
    by_cases e : b' = t
    · subst e; rw [hw] at hw'; cases hw'
    · exact h5 b' w' hb (by omega) hw'
end
end Go.Lq


namespace Go.Lq
open Go
open Go.Proofs
theorem isAtom_map (x : Option Nat) : isAtom (.map x) = true := rfl
theorem constOk_mapN : constOk (.map none) = true := rfl
attribute [go_sem] isAtom_map constOk_mapN
structure FewIds (h0 a4 a7 idm a8 a9 idb base : Nat) : Prop where
  o1 : h0 + 1 < a4
  o2 : a4 < a7
  o3 : a7 < idm
  o4 : idm < a8
  o5 : a8 < a9
  o6 : a9 < idb
  o7 : idb < base
structure FewSt (H0 : AHeap) (a4 a7 idm a8 a9 idb : Nat) (L : Int × Int) (M : List Mark) (v : Value) (m : Ents) (best : Int × Int) (H : AHeap) : Prop where
  ext : Ext H0 H
  b1 : H[H0.length]? = some (.cells true 0 (evC L v))
  b2 : H[H0.length + 1]? = some (.cells true 0 [.slice none 0 0])
  b4 : H[a4]? = some (.cells true 0 (evC L v))
  b7 : H[a7]? = some (.cells true 0 [.int .i64 ((M.length : Int) - 1)])
  mp : H[idm]? = some (.map (entsP m))
  b8 : H[a8]? = some (.cells true 0 [.map (some idm)])
  b9 : H[a9]? = some (.cells true 0 [.int .i64 best.1,.int .i64 best.2])
  bb : H[idb]? = some (.cells true 0 [v])
section
variable {H0 H : AHeap} {a4 a7 idm a8 a9 idb base : Nat} {L : Int × Int} {M : List Mark} {v : Value} {m m' : Ents} {best best' : Int × Int}
theorem FewSt.app (h : FewSt H0 a4 a7 idm a8 a9 idb L M v m best H) (N : AHeap) : FewSt H0 a4 a7 idm a8 a9 idb L M v m best (H ++ N) :=
  ⟨h.ext.app N,at_app h.b1,at_app h.b2,at_app h.b4,at_app h.b7,at_app h.mp,at_app h.b8,at_app h.b9,at_app h.bb⟩
theorem FewSt.set (h : FewSt H0 a4 a7 idm a8 a9 idb L M v m best H) (o : FewIds H0.length a4 a7 idm a8 a9 idb base) {j : Nat} (hj : base ≤ j) (c : AObj) : FewSt H0 a4 a7 idm a8 a9 idb L M v m best (H.set j c) := by
  obtain ⟨o1,o2,o3,o4,o5,o6,o7⟩ := o
  obtain ⟨x,b1,b2,b4,b7,mp,b8,b9,bb⟩ := h
  refine ⟨x.set (by omega) _,?_,?_,?_,?_,?_,?_,?_,?_⟩ <;> rw [List.getElem?_set_ne (by omega)] <;> assumption
theorem FewSt.put (h : FewSt H0 a4 a7 idm a8 a9 idb L M v m best H) (o : FewIds H0.length a4 a7 idm a8 a9 idb base) (m' : Ents) : FewSt H0 a4 a7 idm a8 a9 idb L M v m' best (H.set idm (.map (entsP m'))) := by
  obtain ⟨o1,o2,o3,o4,o5,o6,o7⟩ := o
  obtain ⟨x,b1,b2,b4,b7,mp,b8,b9,bb⟩ := h
  refine ⟨x.set (by omega) _,?_,?_,?_,?_,get_set_self mp,?_,?_,?_⟩ <;> rw [List.getElem?_set_ne (by omega)] <;> assumption
end
def TabJ (L : Int × Int) (M : List Mark) (i : Nat) (m : Ents) (best : Int × Int) : Prop :=
  (i = 0 → MapAt L M 0 ((M.getD 0 (0,0,0)).2.2 + 1) m ∧ BestAt L M ((M.getD 0 (0,0,0)).2.2 + 1) best) ∧ (0 < i → MapAt L M (i - 1) (M.getD (i - 1) (0,0,0)).2.1 m ∧ best = (0,0))
def TabI (L : Int × Int) (M : List Mark) (k : Nat) (t : Int) (m : Ents) (best : Int × Int) : Prop :=
  MapAt L M k t m ∧ (k = 0 → BestAt L M t best) ∧ (k ≠ 0 → best = (0,0))
section
variable {L : Int × Int} {M : List Mark} {m : Ents} {best : Int × Int} {k : Nat} {t : Int}
theorem TabJ.open (h : TabJ L M (k + 1) m best) : TabI L M k (M.getD k (0,0,0)).2.1 m best := by
  obtain ⟨a,b⟩ := h.2 (Nat.succ_pos _)
  rw [Nat.add_sub_cancel] at a
  refine ⟨a,fun hk => ?_,fun _ => b⟩
  subst hk; rw [b]; exact BestAt.start (Int.le_refl _)
theorem TabI.skip (he : EvOk L M) (hk : k < M.length) (h : TabI L M k t m best) (hw : tabK L M k t = none) : TabI L M k (t + 1) m best :=
  ⟨h.1.none he hk hw,fun h0 => by subst h0; exact (h.2.1 rfl).skip hw,h.2.2⟩
theorem TabI.other (he : EvOk L M) (hk : k < M.length) (hr : inR M k t) (h : TabI L M k t m best) {w : Way} (hw : tabK L M k t = some w) (h0 : k ≠ 0) : TabI L M k (t + 1) (putP (mP M k,t) (wayV w) m) best :=
  ⟨h.1.some he hk hr hw,fun h => absurd h h0,h.2.2⟩
theorem TabI.first (he : EvOk L M) (h1 : 0 < M.length) (hr : inR M 0 t) (h : TabI L M 0 t m best) {w : Way} (hw : tabK L M 0 t = some w) :
    ∃ o : Option Way,getP (putP (mP M 0,t) (wayV w) m) best = o.map wayV ∧ ((o = none ∧ TabI L M 0 (t + 1) (putP (mP M 0,t) (wayV w) m) (mP M 0,t)) ∨
      ∃ u : Way,o = some u ∧ best.1 = mP M 0 ∧ (w.1 < u.1 → TabI L M 0 (t + 1) (putP (mP M 0,t) (wayV w) m) (mP M 0,t)) ∧ (¬ w.1 < u.1 → TabI L M 0 (t + 1) (putP (mP M 0,t) (wayV w) m) best)) := by
  have hm := h.1.some he h1 hr hw
  rcases h.2.1 rfl with ⟨e1,e2⟩ | ⟨b,u,e1,e2,e3,e4,e5⟩
  · rw [e1,getP_put]
    have hnew : BestAt L M (t + 1) (mP M 0,t) := .inr ⟨t,w,rfl,hr,by omega,hw,fun b' w' hb hlt hw' => by
      by_cases e : b' = t
      · subst e; rw [hw] at hw'; cases hw'; exact Nat.le_refl _
      · rw [e2 b' hb (by omega)] at hw'; cases hw'⟩
    by_cases e : (mP M 0,t) = (0,0)
    · rw [if_pos e]
      refine ⟨some w,rfl,.inr ⟨w,rfl,(Prod.mk.inj e).1.symm,fun hlt => absurd hlt (Nat.lt_irrefl _),fun _ => ⟨hm,fun _ => ?_,fun h => absurd rfl h⟩⟩⟩
      rw [← e]; exact hnew
    · rw [if_neg e]
      refine ⟨none,?_,.inl ⟨rfl,hm,fun _ => hnew,fun h => absurd rfl h⟩⟩
      cases hp : getP m (0,0) with
      | none => rfl
      | some x =>
        obtain ⟨k',b,e3,hk',hc,hrb⟩ := h.1.only (0,0) (by rw [hp]; simp)
        have hb1 : (0 : Int) = mP M k' := (Prod.mk.inj e3).1
        have p0 := he.pos 0 h1
        rcases hc with hc | ⟨rfl,hc⟩
        · have := he.lt hc hk'
          unfold mP at hb1; omega
        · have := h.1.get 0 b h1 (.inr ⟨rfl,hc⟩) hrb
          rw [← e3,hp,e2 b hrb hc] at this; cases this
  · subst e1
    have hne : ¬ (mP M 0,t) = (mP M 0,b) := fun h => by have := (Prod.mk.inj h).2; omega
    refine ⟨some u,?_,.inr ⟨u,rfl,rfl,fun hlt => ⟨hm,fun _ => .inr ⟨t,w,rfl,hr,by omega,hw,fun b' w' hb hlt' hw' => ?_⟩,fun h => absurd rfl h⟩,fun hge => ⟨hm,fun _ => .inr ⟨b,u,rfl,e2,by omega,e4,fun b' w' hb hlt' hw' => ?_⟩,fun h => absurd rfl h⟩⟩⟩
    · rw [getP_put,if_neg hne,h.1.get 0 b h1 (.inr ⟨rfl,e3⟩) e2,e4]
    · by_cases e : b' = t
      · subst e; rw [hw] at hw'; cases hw'; exact Nat.le_refl _
      · have := e5 b' w' hb (by omega) hw'; omega
    · by_cases e : b' = t
      · subst e; rw [hw] at hw'; cases hw'; omega
      · exact e5 b' w' hb (by omega) hw'
end
end Go.Lq

namespace Go.Lq
open Go
open Go.Proofs
theorem pushP_at {H : AHeap} {v : Value} {l : List (Int × Int)} {x : Int × Int} {i : Nat} {c : AObj} (h : H[i]? = some c) (hv : v = .slice none 0 0 ∨ idOf v ≠ i) : (pushPH H v l x)[i]? = some c := by
  have hi := (List.getElem?_eq_some_iff.1 h).1
  unfold pushPH
  rw [appH_at (by simp; omega) hv,List.getElem?_append_left hi]; exact h
theorem OwnP.aside {H0 H : AHeap} {l : List (Int × Int)} {v : Value} (h : OwnP H0 H l v) {j : Nat} (hj : j < H0.length) : v = .slice none 0 0 ∨ idOf v ≠ j := by
  rcases h.2 with ⟨rfl,h0⟩ | ⟨id,rfl,h1,_,_⟩
  · exact .inl rfl
  · exact .inr (by show id ≠ j; omega)
theorem OwnP.set_ne {H0 H : AHeap} {l : List (Int × Int)} {v : Value} (h : OwnP H0 H l v) {j : Nat} (hj : v = .slice none 0 0 ∨ idOf v ≠ j) (c : AObj) : OwnP H0 (H.set j c) l v := by
  refine Own.set_ne h ?_ c
  rcases hj with rfl | hj
  · rcases h.2 with ⟨_,h0⟩ | ⟨id,e,_⟩
    · exact .inl h0
    · cases e
  · exact .inr hj
theorem OwnP.pushedL {H0 H : AHeap} {l : List (Int × Int)} {v : Value} (h : OwnP H0 H l v) (hx : H0.length ≤ H.length) (x : Int × Int) : OwnP H0 (pushPH H v l x) (l ++ [x]) (pushV H l.length) := by
  have := Own.appended (h.app [.cells true 2 [.int .i64 x.1,.int .i64 x.2]]) (m := 1) (cs := [.int .i64 x.1,.int .i64 x.2]) rfl (by omega) (by simp; omega)
  unfold OwnP
  simpa [pushV,pushPH,flatP] using this
theorem FewSt.push {H0 H F : AHeap} {a4 a7 idm a8 a9 idb base : Nat} {L : Int × Int} {M : List Mark} {v sv : Value} {m : Ents} {best : Int × Int} {l : List (Int × Int)} (h : FewSt H0 a4 a7 idm a8 a9 idb L M v m best H) (o : FewIds H0.length a4 a7 idm a8 a9 idb base)
    (ho : OwnP F H l sv) (hF : base ≤ F.length) (x : Int × Int) : FewSt H0 a4 a7 idm a8 a9 idb L M v m best (pushPH H sv l x) := by
  obtain ⟨o1,o2,o3,o4,o5,o6,o7⟩ := o
  obtain ⟨y,b1,b2,b4,b7,mp,b8,b9,bb⟩ := h
  have hw : OwnP H0 H l sv := ho.weaken (by omega)
  exact ⟨OwnP.ext hw y x,pushP_at b1 (ho.aside (by omega)),pushP_at b2 (ho.aside (by omega)),pushP_at b4 (ho.aside (by omega)),pushP_at b7 (ho.aside (by omega)),pushP_at mp (ho.aside (by omega)),pushP_at b8 (ho.aside (by omega)),pushP_at b9 (ho.aside (by omega)),pushP_at bb (ho.aside (by omega))⟩
section
variable {H : AHeap} {L : Int × Int} {M : List Mark} {v : Value}
end
end Go.Lq


namespace Go.Lq
open Go
open Go.Proofs
theorem Tris.mark {H H' : AHeap} {M : List Mark} {v : Value} (h : Tris H M v) (hx : Ext H H') {i : Nat} (hi : i < M.length) : loadNR 3 (addrOf v (i * 3)) H' = some (markV (M.getD i (0,0,0)),H') := (h.load hx hi).1
section
variable {H : AHeap} {L : Int × Int} {M : List Mark} {v : Value}
end
end Go.Lq


namespace Go.Lq
open Go
open Go.Proofs
theorem OwnT.aside {H0 H : AHeap} {l : List (Int × Int × Int)} {v : Value} (h : OwnT H0 H l v) {j : Nat} (hj : j < H0.length) : v = .slice none 0 0 ∨ idOf v ≠ j := by
  rcases h.2 with ⟨rfl,h0⟩ | ⟨id,rfl,h1,_,_⟩
  · exact .inl rfl
  · exact .inr (by show id ≠ j; omega)
theorem OwnT.set_ne {H0 H : AHeap} {l : List (Int × Int × Int)} {v : Value} (h : OwnT H0 H l v) {j : Nat} (hj : v = .slice none 0 0 ∨ idOf v ≠ j) (c : AObj) : OwnT H0 (H.set j c) l v := by
  refine Own.set_ne h ?_ c
  rcases hj with rfl | hj
  · rcases h.2 with ⟨_,h0⟩ | ⟨id,e,_⟩
    · exact .inl h0
    · cases e
  · exact .inr hj
theorem OwnT.pushedL {H0 H : AHeap} {l : List (Int × Int × Int)} {v : Value} (h : OwnT H0 H l v) (hx : H0.length ≤ H.length) (x : Int × Int × Int) : OwnT H0 (pushTH H v l x) (l ++ [x]) (pushV H l.length) := by
  have := Own.appended (h.app [.cells true 3 [.int .i64 x.1,.int .i64 x.2.1,.int .i64 x.2.2]]) (m := 1) (cs := [.int .i64 x.1,.int .i64 x.2.1,.int .i64 x.2.2]) rfl (by omega) (by simp; omega)
  unfold OwnT
  simpa [pushV,pushTH,flat3] using this
section
variable {H : AHeap} {L : Int × Int} {M : List Mark} {v kv : Value} {K : List Int}
end
end Go.Lq



namespace Go.Lq
open Go
open Go.Proofs
theorem ratio_E {num den step : Int} {n : Nat} : firstErr [(if decide ((1 ≤ num ∧ num ≤ 1000) ∧ (1 ≤ den ∧ den ≤ 1000)) = true then 0 else 2),(if decide (step = 0 ∧ (n : Int) = 0) = true then 0 else 3)] = ratioErrL num den step n := by
  unfold ratioErrL
  simp only [decide_eq_true_eq]
theorem curve_E {l : List (Int × Int)} {num den step : Int} : firstErr [mapErrL l,(if decide (1 ≤ step ∧ step ≤ 1000000000000) = true then 0 else 2),(if decide (num = 0 ∧ den = 0) = true then 0 else 3)] = curveErrL l step num den := by
  unfold curveErrL
  simp only [decide_eq_true_eq]
section
variable {H : AHeap} {kind deg num den step : Int} {l : List (Int × Int)} {v : Value}
set_option maxHeartbeats 4000000 in
theorem checkRules_c (hl : Pairs H l v) (hb : l.length ≤ 1000000000) : ACall Go.Proofs.Tryz.prog 64 [rulesV kind deg num den step v] H fun w H' => w = .int .i64 (rulesErrL kind deg num den step l) ∧ H' = H := by
  refine ACall.drop (.int _ _) ?_
  (refine a64 ?_; simp only [n64,List.replicate,yq,yr,yt,yu]; first | refine q1 ?_ | refine q2 ?_ | refine q6 ?_ | refine q7 ?_ | refine qh rfl ?_ | skip)
  have g0 : (H ++ [AObj.cells true 0 (rulesC kind deg num den step v)])[H.length]? = some (.cells true 0 (rulesC kind deg num den step v)) := at_new
  have xG : Ext H (H ++ [AObj.cells true 0 (rulesC kind deg num den step v)]) := (Ext.refl H).app _
  (repeat (first | refine yv ?_ | (apply yd; simp (disch:=first|exact zz|fail) only[go_sem,box_rules hl.atom];with_reducible rfl)))
  generalize (H ++ [AObj.cells true 0 (rulesC kind deg num den step v)] : AHeap) = G at g0 xG
  have hl1 := hl.ext xG
  (repeat(first|refine yw ?_|((first|apply yd|apply ye);simp (disch:=first|exact zz|fail) only[go_sem,load_at g0,rulesC];with_reducible rfl)))
  refine adraw_call (N := []) (firstD (within_c _ _ _)) ?_
  rw [List.append_nil]
  (refine yg ?_)
  refine adraw_call (N := []) (firstD (unless_c _ _)) ?_
  rw [List.append_nil]
  (repeat(first|refine yw ?_|((first|apply yd|apply ye);simp (disch:=first|exact zz|fail) only[go_sem,load_at g0,rulesC];with_reducible rfl)))
  refine adraw_call (N := []) (firstD (degreeErr_c _)) ?_
  rw [List.append_nil]
  (refine yg ?_)
  refine adraw_call (N := []) (firstD (first_c (l := [_,_]) (Ints.last (l := [_,_]) 2) (by simp))) ?_
  rw [List.append_nil]
  by_cases hk : 0 ≤ kind ∧ kind ≤ 1
  rotate_left 1
  · have ev : rulesErrL kind deg num den step l = 15 := by unfold rulesErrL; rw [if_neg hk]
    rw [ev]
    (repeat(first|refine yw ?_|((first|apply yd|apply ye);simp (disch:=first|exact zz|fail) only[go_sem,dec_f hk,ite_ft,firstErr_e (show (15 : Int) ≠ 0 by decide)];with_reducible rfl)))
    refine cond_t rfl ?_
    (refine yg ?_)
    exact fin_1 ⟨rfl,xG.app _⟩
  by_cases hd : degErrL deg = 0
  rotate_left 1
  · have ev : rulesErrL kind deg num den step l = degErrL deg := by unfold rulesErrL; rw [if_pos hk,if_neg hd]
    rw [ev]
    (repeat(first|refine yw ?_|((first|apply yd|apply ye);simp (disch:=first|exact zz|fail) only[go_sem,dec_t hk,ite_tt,firstErr_z,firstErr_e hd,dec_t (show degErrL deg ≠ 0 from hd)];with_reducible rfl)))
    refine cond_t rfl ?_
    (refine yg ?_)
    exact fin_1 ⟨rfl,xG.app _⟩
  (repeat(first|refine yw ?_|((first|apply yd|apply ye);simp (disch:=first|exact zz|fail) only[go_sem,dec_t hk,ite_tt,firstErr_z,hd,firstErr_nil];with_reducible rfl)))
  refine cond_f rfl ?_
  have x2 : Ext G (G ++ [AObj.cells true 1 [.int .i64 0,.int .i64 0]]) := (Ext.refl G).app _
  generalize (G ++ [AObj.cells true 1 [.int .i64 0,.int .i64 0]] : AHeap) = G2 at x2
  have xH2 := xG.trans x2
  have k0 := x2.cell g0
  have hl2 := hl.ext xH2
  by_cases h0 : kind = 0
  · have ev : rulesErrL kind deg num den step l = ratioErrL num den step l.length := by unfold rulesErrL; rw [if_pos hk,if_pos hd,if_pos h0]
    rw [ev,← ratio_E]
    (repeat(first|refine yw ?_|((first|apply yd|apply ye);simp (disch:=first|exact zz|fail) only[go_sem,load_at k0,rulesC,dec_t h0];with_reducible rfl)))
    refine cond_t rfl ?_
    (repeat(first|refine yw ?_|((first|apply yd|apply ye);simp (disch:=first|exact zz|fail) only[go_sem,load_at k0,rulesC];with_reducible rfl)))
    refine adraw_call (N := []) (firstD (checkRules1_c _)) ?_
    rw [List.append_nil]
    by_cases hn : 1 ≤ num ∧ num ≤ 1000
    · (repeat(first|refine yw ?_|((first|apply yd|apply ye);simp (disch:=first|exact zz|fail) only[go_sem,dec_t hn,load_at k0,rulesC];with_reducible rfl)))
      refine adraw_call (N := []) (firstD (checkRules1_c _)) ?_
      rw [List.append_nil]
      (repeat(first|refine yw ?_|((first|apply yd|apply ye);simp (disch:=first|exact zz|fail) only[go_sem,dec_t hn];with_reducible rfl)))
      refine adraw_call (N := []) (firstD (unless_c _ _)) ?_
      rw [List.append_nil]
      by_cases hs : step = 0
      · (repeat(first|refine yw ?_|((first|apply yd|apply ye);simp (disch:=first|exact zz|fail) only[go_sem,hl2.len,hl2.idx,hl2.load,load_at k0,rulesC,dec_t hs];with_reducible rfl)))
        refine adraw_call (N := []) (firstD (unless_c _ _)) ?_
        rw [List.append_nil]
        (refine yg ?_)
        refine adraw_call (N := []) (firstD (first_c (l := [_,_]) (Ints.last (l := [_,_]) 2) (by simp))) ?_
        rw [List.append_nil]
        (refine yg ?_)
        exact fin_1 ⟨by simp [hn,hs],xH2.app _⟩
      · (repeat(first|refine yw ?_|((first|apply yd|apply ye);simp (disch:=first|exact zz|fail) only[go_sem,hl2.len,hl2.idx,hl2.load,load_at k0,rulesC,dec_f hs];with_reducible rfl)))
        refine adraw_call (N := []) (firstD (unless_c _ _)) ?_
        rw [List.append_nil]
        (refine yg ?_)
        refine adraw_call (N := []) (firstD (first_c (l := [_,_]) (Ints.last (l := [_,_]) 2) (by simp))) ?_
        rw [List.append_nil]
        (refine yg ?_)
        exact fin_1 ⟨by simp [hn,hs],xH2.app _⟩
    · (repeat(first|refine yw ?_|((first|apply yd|apply ye);simp (disch:=first|exact zz|fail) only[go_sem,dec_f hn];with_reducible rfl)))
      refine adraw_call (N := []) (firstD (unless_c _ _)) ?_
      rw [List.append_nil]
      by_cases hs : step = 0
      · (repeat(first|refine yw ?_|((first|apply yd|apply ye);simp (disch:=first|exact zz|fail) only[go_sem,hl2.len,hl2.idx,hl2.load,load_at k0,rulesC,dec_t hs];with_reducible rfl)))
        refine adraw_call (N := []) (firstD (unless_c _ _)) ?_
        rw [List.append_nil]
        (refine yg ?_)
        refine adraw_call (N := []) (firstD (first_c (l := [_,_]) (Ints.last (l := [_,_]) 2) (by simp))) ?_
        rw [List.append_nil]
        (refine yg ?_)
        exact fin_1 ⟨by simp [hn,hs,firstErr],xH2.app _⟩
      · (repeat(first|refine yw ?_|((first|apply yd|apply ye);simp (disch:=first|exact zz|fail) only[go_sem,hl2.len,hl2.idx,hl2.load,load_at k0,rulesC,dec_f hs];with_reducible rfl)))
        refine adraw_call (N := []) (firstD (unless_c _ _)) ?_
        rw [List.append_nil]
        (refine yg ?_)
        refine adraw_call (N := []) (firstD (first_c (l := [_,_]) (Ints.last (l := [_,_]) 2) (by simp))) ?_
        rw [List.append_nil]
        (refine yg ?_)
        exact fin_1 ⟨by simp [hn,hs,firstErr],xH2.app _⟩
  have ev : rulesErrL kind deg num den step l = curveErrL l step num den := by unfold rulesErrL; rw [if_pos hk,if_pos hd,if_neg h0]
  rw [ev,← curve_E]
  (repeat(first|refine yw ?_|((first|apply yd|apply ye);simp (disch:=first|exact zz|fail) only[go_sem,load_at k0,rulesC,dec_f h0];with_reducible rfl)))
  refine cond_f rfl ?_
  (repeat(first|refine yw ?_|((first|apply yd|apply ye);simp (disch:=first|exact zz|fail) only[go_sem,load_map k0];with_reducible rfl)))
  refine aops_call_to (spCheckMap_c hl2 hb) ?_
  have em : (ckMap l).2 = mapErrL l := rfl
  rw [em]
  (repeat(first|refine yw ?_|((first|apply yd|apply ye);simp (disch:=first|exact zz|fail) only[go_sem,load_at k0,rulesC];with_reducible rfl)))
  refine adraw_call (N := []) (firstD (within_c _ _ _)) ?_
  rw [List.append_nil]
  (refine yg ?_)
  refine adraw_call (N := []) (firstD (unless_c _ _)) ?_
  rw [List.append_nil]
  by_cases hs : num = 0
  · (repeat(first|refine yw ?_|((first|apply yd|apply ye);simp (disch:=first|exact zz|fail) only[go_sem,load_at k0,rulesC,dec_t hs];with_reducible rfl)))
    refine adraw_call (N := []) (firstD (unless_c _ _)) ?_
    rw [List.append_nil]
    (refine yg ?_)
    refine adraw_call (N := []) (firstD (first_c (l := [_,_,_]) (Ints.last (l := [_,_,_]) 3) (by simp))) ?_
    rw [List.append_nil]
    (refine yg ?_)
    exact fin_1 ⟨by simp [hs],xH2.app _⟩
  · (repeat(first|refine yw ?_|((first|apply yd|apply ye);simp (disch:=first|exact zz|fail) only[go_sem,load_at k0,rulesC,dec_f hs];with_reducible rfl)))
    refine adraw_call (N := []) (firstD (unless_c _ _)) ?_
    rw [List.append_nil]
    (refine yg ?_)
    refine adraw_call (N := []) (firstD (first_c (l := [_,_,_]) (Ints.last (l := [_,_,_]) 3) (by simp))) ?_
    rw [List.append_nil]
    (refine yg ?_)
    exact fin_1 ⟨by simp [hs],xH2.app _⟩
end
end Go.Lq






namespace Go.Lq
open Go
open Go.Proofs
def accRate (L : Int × Int) (l : List (Int × Int)) (i : Nat) : Nat → Option Nat
  | 0 => none
  | n + 1 => if keepsB L (pieceOf l i) = true then accRate L l (i + 1) n else some i
theorem accRate_succ {L : Int × Int} {l : List (Int × Int)} {i n : Nat} : accRate L l i (n + 1) = if keepsB L (pieceOf l i) = true then accRate L l (i + 1) n else some i := rfl
def accMark (M : List Mark) (l : List (Int × Int)) (i : Nat) : Nat → Int × Int
  | 0 => (0,0)
  | n + 1 => if (l.getD 0 (0,0)).1 ≤ (M.getD i (0,0,0)).1 ∧ (M.getD i (0,0,0)).1 ≤ (l.getD (l.length - 1) (0,0)).1 then
      (if meetsB (pieceP l (M.getD i (0,0,0)).1) (M.getD i (0,0,0)) = true then accMark M l (i + 1) n else ((i : Int),13)) else ((i : Int),14)
theorem accMark_succ {M : List Mark} {l : List (Int × Int)} {i n : Nat} : accMark M l i (n + 1) = if (l.getD 0 (0, 0)).1 ≤ (M.getD i (0, 0, 0)).1 ∧ (M.getD i (0, 0, 0)).1 ≤ (l.getD (l.length - 1) (0, 0)).1 then
      (if meetsB (pieceP l (M.getD i (0,0,0)).1) (M.getD i (0,0,0)) = true then accMark M l (i + 1) n else ((i : Int),13)) else ((i : Int),14) := rfl
def accGo (L : Int × Int) (M : List Mark) (l : List (Int × Int)) : Int × Int := match accRate L l 0 (l.length - 1) with | some i => ((i : Int),23) | none => accMark M l 0 M.length
section
variable {H : AHeap} {L : Int × Int} {M : List Mark} {v u : Value} {l : List (Int × Int)}
end
end Go.Lq


namespace Go.Lq
open Go
open Go.Proofs
theorem meets_iff {p : (Int × Int) × (Int × Int)} {x : Mark} : meetsB p x = true ↔ atLeast p x.1 x.2.1 ∧ atMost p x.1 x.2.2 := decide_eq_true_iff
section
variable {H : AHeap} {L : Int × Int} {M : List Mark} {v u : Value} {l : List (Int × Int)}
end
end Go.Lq

namespace Go.Lq
theorem accRate_all {L : Int × Int} {l : List (Int × Int)} : ∀ {n i : Nat},accRate L l i n = none → ∀ j,i ≤ j → j < i + n → keepsB L (pieceOf l j) = true
  | 0,i,_,j,h1,h2 => by omega
  | n + 1,i,h,j,h1,h2 => by
    rw [accRate_succ] at h
    by_cases hk : keepsB L (pieceOf l i) = true
    · rw [if_pos hk] at h
      by_cases e : j = i
      · subst e; exact hk
      · exact accRate_all h j (by omega) (by omega)
    · rw [if_neg hk] at h; cases h
theorem accMark_all {M : List Mark} {l : List (Int × Int)} : ∀ {n i : Nat},(accMark M l i n).2 = 0 → ∀ j,i ≤ j → j < i + n → ((l.getD 0 (0,0)).1 ≤ mP M j ∧ mP M j ≤ (l.getD (l.length - 1) (0,0)).1) ∧ meetsB (pieceP l (mP M j)) (M.getD j (0,0,0)) = true
  | 0,i,_,j,h1,h2 => by omega
  | n + 1,i,h,j,h1,h2 => by
    rw [accMark_succ] at h
    by_cases hr : (l.getD 0 (0,0)).1 ≤ (M.getD i (0,0,0)).1 ∧ (M.getD i (0,0,0)).1 ≤ (l.getD (l.length - 1) (0,0)).1
    · rw [if_pos hr] at h
      by_cases hm : meetsB (pieceP l (M.getD i (0,0,0)).1) (M.getD i (0,0,0)) = true
      · rw [if_pos hm] at h
        by_cases e : j = i
        · subst e; exact ⟨hr,hm⟩
        · exact accMark_all h j (by omega) (by omega)
      · rw [if_neg hm] at h; exact absurd (show (13 : Int) = 0 from h) (by decide)
    · rw [if_neg hr] at h; exact absurd (show (14 : Int) = 0 from h) (by decide)
structure AccOk (L : Int × Int) (M : List Mark) (l : List (Int × Int)) : Prop where
  ok : MapOk l
  rate : RateOk L l
  marks : ∀ j,j < M.length → ((l.getD 0 (0,0)).1 ≤ mP M j ∧ mP M j ≤ (l.getD (l.length - 1) (0,0)).1) ∧ (atLeast (pieceP l (mP M j)) (mP M j) (M.getD j (0,0,0)).2.1 ∧ atMost (pieceP l (mP M j)) (mP M j) (M.getD j (0,0,0)).2.2)
theorem AccOk.of {L : Int × Int} {M : List Mark} {l : List (Int × Int)} (hok : MapOk l) (h : (accGo L M l).2 = 0) : AccOk L M l := by
  unfold accGo at h
  cases hr : accRate L l 0 (l.length - 1) with
  | some i => rw [hr] at h; exact absurd h (by show ¬ ((23 : Int) = 0); decide)
  | none =>
    rw [hr] at h
    have hk := accRate_all hr
    have hm := accMark_all (i := 0) (n := M.length) h
    exact ⟨hok,fun i hi => of_decide_eq_true (hk i (Nat.zero_le _) (by omega)),fun j hj => ⟨(hm j (Nat.zero_le _) (by omega)).1,meets_iff.1 (hm j (Nat.zero_le _) (by omega)).2⟩⟩
section
variable {L : Int × Int} {M : List Mark} {l : List (Int × Int)} (ha : AccOk L M l) (he : EvOk L M)
include ha he
theorem AccOk.one {i : Nat} (hi : i < M.length) {q : Int} (hq : (l.getD 0 (0,0)).1 ≤ q ∧ q ≤ (l.getD (l.length - 1) (0,0)).1) : (byR L (M.getD i (0,0,0)) q).1 ≤ mapTimLo l q ∧ mapTimHi l q ≤ (byR L (M.getD i (0,0,0)) q).2 := by
  have hm := ha.ok
  have hlo := hm.lo
  obtain ⟨m1,m2⟩ := ha.marks i hi
  obtain ⟨b1,b2⟩ := by_encloses hm ha.rate he.le (x := M.getD i (0,0,0)) (q := q) m1 hq m2
  obtain ⟨a1,_⟩ := atPos_in (l := l) (t := q) (k := l.length - 2) (i := 0) (by omega) hq.1
  have hp : (pieceP l q).1.1 < (pieceP l q).2.1 := (hm.piece a1).pos
  rw [least_lo hp] at b1
  rw [most_hi hp] at b2
  exact ⟨b1,b2⟩
theorem AccOk.enc (h0 : 0 < M.length) {q : Int} (hq : (l.getD 0 (0,0)).1 ≤ q ∧ q ≤ (l.getD (l.length - 1) (0,0)).1) : (encTo L M q M.length).1 ≤ mapTimLo l q ∧ mapTimHi l q ≤ (encTo L M q M.length).2 :=
  enc_le h0 fun _ hi => ha.one he hi hq
end
/-! ### Fewer marks -/
theorem mark_mem {M : List Mark} {x : Mark} (h : x ∈ M) : ∃ k,k < M.length ∧ M.getD k (0,0,0) = x := by
  obtain ⟨k,hk,e⟩ := List.getElem_of_mem h
  exact ⟨k,hk,by rw [List.getD_eq_getElem?_getD,List.getElem?_eq_getElem hk]; exact e⟩
theorem getD_mem {M : List Mark} {k : Nat} (h : k < M.length) : M.getD k (0,0,0) ∈ M := by
  rw [List.getD_eq_getElem?_getD,List.getElem?_eq_getElem h]; exact List.getElem_mem h
theorem pair_iff {M : List Mark} {R : Mark → Mark → Prop} : M.Pairwise R ↔ ∀ i k,i < k → k < M.length → R (M.getD i (0,0,0)) (M.getD k (0,0,0)) := by
  rw [List.pairwise_iff_getElem]
  constructor
  · intro h i k hik hk
    rw [List.getD_eq_getElem?_getD,List.getElem?_eq_getElem (show i < M.length by omega),List.getD_eq_getElem?_getD,List.getElem?_eq_getElem hk]
    exact h i k _ _ hik
  · intro h i k hi hk hik
    have := h i k hik hk
    rw [List.getD_eq_getElem?_getD,List.getElem?_eq_getElem hi,List.getD_eq_getElem?_getD,List.getElem?_eq_getElem hk] at this
    exact this
theorem EvOk.sub {L : Int × Int} {M N : List Mark} (h : EvOk L M) (hs : N.Sublist M) : EvOk L N := by
  have hm : ∀ i,i < N.length → ∃ k,k < M.length ∧ M.getD k (0,0,0) = N.getD i (0,0,0) := fun i hi => mark_mem (hs.subset (getD_mem hi))
  refine ⟨h.lo,h.hi,h.le,Nat.le_trans hs.length_le h.len,fun i hi => ?_,fun i hi => ?_,fun i hi => ?_,fun i hi => ?_,fun i hi => ?_⟩
  · obtain ⟨k,hk,e⟩ := hm i hi; rw [← e]; exact h.pos k hk
  · obtain ⟨k,hk,e⟩ := hm i hi; rw [← e]; exact h.t1 k hk
  · obtain ⟨k,hk,e⟩ := hm i hi; rw [← e]; exact h.t2 k hk
  · obtain ⟨k,hk,e⟩ := hm i hi; rw [← e]; exact h.lohi k hk
  · have hp : M.Pairwise (fun a b => a.1 < b.1) := pair_iff.2 fun i k hik hk => h.lt hik hk
    exact pair_iff.1 (hp.sublist hs) i (i + 1) (by omega) hi
theorem NoClash.sub {L : Int × Int} {M N : List Mark} (h : NoClash L M) (hs : N.Sublist M) : NoClash L N := by
  have hp : M.Pairwise (fun a b => clashB L a b = false) := pair_iff.2 h
  exact pair_iff.1 (hp.sublist hs)
end Go.Lq





namespace Go.Lq
open Go
open Go.Proofs
def midV (sz : Nat) (v : Value) (lo hi : Nat) : Value := match v with | .slice (some ⟨id,off,none⟩) _ _ => .slice (some ⟨id,off + lo * sz,none⟩) (hi - lo) (if hi = lo then 1 else hi - lo) | v => v
theorem Sl.inner {H : AHeap} {sz n : Nat} {vs : List Value} {v : Value} (h : Sl H sz n vs v) {lo hi : Nat} (h1 : lo ≤ hi) (h2 : hi ≤ n) : Sl H sz (hi - lo) ((vs.drop (lo * sz)).take ((hi - lo) * sz)) (midV sz v lo hi) := by
  obtain ⟨hl,h⟩ := h
  have m1 := Nat.mul_le_mul_right sz h1
  have m2 := Nat.mul_le_mul_right sz h2
  refine ⟨by rw [List.length_take,List.length_drop,hl,Nat.sub_mul]; omega,?_⟩
  rcases h with ⟨rfl,rfl⟩ | ⟨id,off,c,rfl,hc⟩
  · exact .inl ⟨rfl,by omega⟩
  · refine .inr ⟨id,off + lo * sz,_,rfl,fun hn => ?_⟩
    exact cellsAt_sub (hc (by omega)) (i := lo * sz) (m := (hi - lo) * sz) (by rw [Nat.sub_mul]; omega)
theorem flatP_take (l : List (Int × Int)) (n : Nat) : flatP (l.take n) = (flatP l).take (n * 2) := by
  induction l generalizing n with
  | nil => simp [flatP]
  | cons p l ih =>
    cases n with
    | zero => simp [flatP]
    | succ n =>
      have e : flatP (p :: l) = .int .i64 p.1 :: .int .i64 p.2 :: flatP l := rfl
      have e2 : flatP (p :: l.take n) = .int .i64 p.1 :: .int .i64 p.2 :: flatP (l.take n) := rfl
      rw [List.take_succ_cons,e2,e,ih,show (n + 1) * 2 = n * 2 + 1 + 1 by omega,List.take_succ_cons,List.take_succ_cons]
theorem flatP_drop2 (l : List (Int × Int)) (n : Nat) : flatP (l.drop n) = (flatP l).drop (n * 2) := by
  induction l generalizing n with
  | nil => simp [flatP]
  | cons p l ih =>
    cases n with
    | zero => simp
    | succ n =>
      have e : flatP (p :: l) = .int .i64 p.1 :: .int .i64 p.2 :: flatP l := rfl
      rw [List.drop_succ_cons,e,ih,show (n + 1) * 2 = n * 2 + 1 + 1 by omega,List.drop_succ_cons,List.drop_succ_cons]
theorem Pairs.inner {H : AHeap} {l : List (Int × Int)} {v : Value} (h : Pairs H l v) {lo hi : Nat} (h1 : lo ≤ hi) (h2 : hi ≤ l.length) : Pairs H ((l.drop lo).take (hi - lo)) (midV 2 v lo hi) := by
  have := Sl.inner h h1 h2
  unfold Pairs
  rw [flatP_take,flatP_drop2,List.length_take,List.length_drop,Nat.min_eq_left (by omega)]
  exact this
section
variable {H : AHeap}
end
end Go.Lq

namespace Go.Lq
open Go
open Go.Proofs
theorem dec_pair {p q : Int × Int} : decide (p.1 = q.1 ∧ p.2 = q.2) = decide (p = q) := decide_eq_decide.2 ⟨fun h => Prod.ext h.1 h.2,fun h => by rw [h]; exact ⟨rfl,rfl⟩⟩
section
variable {H : AHeap}
set_option maxHeartbeats 4000000 in
theorem sameMap_c {a b : List (Int × Int)} {va vb : Value} (ha : Pairs H a va) (hb : Pairs H b vb) (hl : a.length ≤ 1000000) :
    ACall Go.Proofs.Tryz.prog 71 [.agg ⟨[va]⟩,.agg ⟨[vb]⟩] H fun v H' => v = .bool (decide (a = b)) ∧ H' = H := by
  refine ACall.drop (.bool _) ?_
  (refine a71 ?_; simp only [n71,List.replicate,yq,yr,yt,yu]; first | refine q1 ?_ | refine q2 ?_ | refine q6 ?_ | refine q7 ?_ | refine qh rfl ?_ | skip)
  obtain ⟨G,hG⟩ : ∃ G,G = H ++ [AObj.cells true 0 [va]] ++ [AObj.cells true 0 [vb]] := ⟨_,rfl⟩
  have g0 : G[H.length]? = some (.cells true 0 [va]) := by rw [hG]; simp
  have g1 : G[H.length + 1]? = some (.cells true 0 [vb]) := by rw [hG]; simp
  have xG : Ext H G := by rw [hG]; exact ((Ext.refl H).app _).app _
  (repeat (first | refine yv ?_ | (apply yd; simp (disch:=first|exact zz|fail) only[go_sem,ha.box1,hb.box1];with_reducible rfl)))
  (simp only [List.length_append,List.length_cons,List.length_nil,Nat.zero_add,Nat.add_assoc,Nat.reduceAdd])
  rw [← hG]
  clear hG
  have ka := ha.ext xG
  have kb := hb.ext xG
  (repeat(first|refine yw ?_|((first|apply yd|apply ye);simp (disch:=first|exact zz|fail) only[go_sem,ka.len,ka.idx,ka.load,kb.len,kb.idx,kb.load,load_at g0,load_at g1];with_reducible rfl)))
  refine cond_p rfl (fun hne => ?_) (fun heq => ?_)
  · (refine yg ?_)
    exact fin_1 ⟨congrArg Value.bool (dec_f (fun h => by subst h; omega)).symm,xG⟩
  have he : a.length = b.length := by omega
  (refine yg ?_)
  refine awp_loop_n [false,false,true,true,false,true,false,false,false,false,false,false,false,false,false,false,false,false,false,false,false,false,false,false,false,false,false,false,false,false,false] a.length (fun i e J => J = G ∧ e = [junk,junk,.pointer (some ⟨H.length,0,none⟩),.pointer (some ⟨H.length + 1,0,none⟩),junk,.int .i64 (i : Nat),junk,junk,junk,junk,junk,junk,junk,junk,junk,junk,junk,junk,junk,junk,junk,junk,junk,junk,junk,junk,junk,junk,junk,junk,junk] ∧ ∀ j : Nat,j < i → a.getD j (0,0) = b.getD j (0,0)) ?_ ?_
  · exact ⟨rfl,by simp [forget],by omega⟩
  rintro i e J hi ⟨rfl,rfl,hbef⟩
  have e1 : (i : Int) + 1 = ((i + 1 : Nat) : Int) := by omega
  (repeat(first|refine yw ?_|((first|apply yd|apply ye);simp (disch:=first|exact zz|fail) only[go_sem,ka.len,ka.idx,ka.load,load_at g0];with_reducible rfl)))
  refine cond_p rfl (fun hlt => ?_) (fun hge => ?_)
  rotate_left 1
  · (refine yg ?_)
    exact fin_1 ⟨congrArg Value.bool (dec_t (ext_getD (d := (0,0)) he fun j hj => hbef j (by omega))).symm,xG⟩
  have hi' : i < a.length := by omega
  by_cases hab : a.getD i (0,0) = b.getD i (0,0)
  · (repeat(first|refine yw ?_|((first|apply yd|apply ye);simp (disch:=first|exact zz|fail) only[go_sem,ka.len,ka.idx,ka.load,kb.len,kb.idx,kb.load,load_at g0,load_at g1,eq_pair,dec_pair,dec_t hab];with_reducible rfl)))
    refine cond_f rfl ?_
    (repeat(first|refine yw ?_|((first|apply yd|apply ye);simp (disch:=first|exact zz|fail) only[go_sem,e1];with_reducible rfl)))
    refine ⟨hi',rfl,by simp [forget],fun j hj => ?_⟩
    by_cases hji : j = i
    · subst hji; exact hab
    · exact hbef j (by omega)
  · (repeat(first|refine yw ?_|((first|apply yd|apply ye);simp (disch:=first|exact zz|fail) only[go_sem,ka.len,ka.idx,ka.load,kb.len,kb.idx,kb.load,load_at g0,load_at g1,eq_pair,dec_pair,dec_f hab];with_reducible rfl)))
    refine cond_t rfl ?_
    (refine yg ?_)
    exact fin_1 ⟨congrArg Value.bool (dec_f (fun h => hab (by rw [h]))).symm,xG⟩
end
end Go.Lq

namespace Go.Lq
open Go
attribute [go_sem] bs_lit bs_size idxS_b sliceS_b sliceS_from sliceS_to add_b eql_b neq_b r_byteS byteS_1 eqvI_n eqvI_i neqI_n neqI_i
attribute [go_sem high] r_eqvI
attribute [go_sem] isAtom_string constOk_string fillA_str fillA_ptr isAtom_pointer constOk_ptrNil
end Go.Lq

namespace Go.Proofs
open Go.Shelf Go.Lib Go.RowKit Go.Sort
def Tryz.lays156_ren : Go.Shelf.Ren := ⟨fun | 156 => 39 | 165 => 95 | 166 => 96 | 169 => 97 | 240 => 138 | 241 => 139 | 276 => 174 | 277 => 175 | n => n,fun | 31 => 87 | 9 => 9 | 3 => 3 | 4 => 4 | 0 => 0 | 20 => 20 | 72 => 159 | 76 => 95 | 70 => 156 | 37 => 157 | 75 => 94 | 127 => 196 | 164 => 226 | 5 => 5 | 80 => 161 | n => n,fun | n => n⟩
theorem Tryz.lays156 : Go.Proofs.Lays.n156 Tryz.prog Tryz.lays156_ren := {
  mixed := by kernel_rfl
  f156 := Tryz.func39.trans (congrArg some (by kernel_rfl))
  f165 := Tryz.func95.trans (congrArg some (by kernel_rfl))
  f166 := Tryz.func96.trans (congrArg some (by kernel_rfl))
  f169 := Tryz.func97.trans (congrArg some (by kernel_rfl))
  f240 := Tryz.func138.trans (congrArg some (by kernel_rfl))
  f241 := Tryz.func139.trans (congrArg some (by kernel_rfl))
  f276 := Tryz.func174.trans (congrArg some (by kernel_rfl))
  f277 := Tryz.func175.trans (congrArg some (by kernel_rfl))
  t0 := Tryz.underlying0
  a0 := Tryz.isAgg0
  z0 := Tryz.sizeOf0
  v0 := Tryz.zeroValue0
  t3 := Tryz.underlying3
  a3 := Tryz.isAgg3
  z3 := Tryz.sizeOf3
  v3 := Tryz.zeroValue3
  t4 := Tryz.underlying4
  a4 := Tryz.isAgg4
  z4 := Tryz.sizeOf4
  v4 := Tryz.zeroValue4
  t9 := Tryz.underlying9
  a9 := Tryz.isAgg9
  z9 := Tryz.sizeOf9
  v9 := Tryz.zeroValue9
  t20 := Tryz.underlying20
  a20 := Tryz.isAgg20
  z20 := Tryz.sizeOf20
  v20 := Tryz.zeroValue20
  t31 := Tryz.underlying87
  a31 := Tryz.isAgg87
  z31 := Tryz.sizeOf87
  v31 := Tryz.zeroValue87
  t37 := Tryz.underlying157
  a37 := Tryz.isAgg157
  z37 := Tryz.sizeOf157
  v37 := Tryz.zeroValue157
  t70 := Tryz.underlying156
  a70 := Tryz.isAgg156
  z70 := Tryz.sizeOf156
  v70 := Tryz.zeroValue156
  t72 := Tryz.underlying159
  a72 := Tryz.isAgg159
  z72 := Tryz.sizeOf159
  v72 := Tryz.zeroValue159
  t75 := Tryz.underlying94
  a75 := Tryz.isAgg94
  z75 := Tryz.sizeOf94
  v75 := Tryz.zeroValue94
  t76 := Tryz.underlying95
  a76 := Tryz.isAgg95
  z76 := Tryz.sizeOf95
  v76 := Tryz.zeroValue95
  t127 := Tryz.underlying196
  a127 := Tryz.isAgg196
  z127 := Tryz.sizeOf196
  v127 := Tryz.zeroValue196
  t164 := Tryz.underlying226
  a164 := Tryz.isAgg226
  z164 := Tryz.sizeOf226
  v164 := Tryz.zeroValue226 }
theorem Tryz.Builder_Extra_156 : Builder.Extra Tryz.prog Tryz.lays156_ren := {
  sizeBuilder := by kernel_rfl
  liesBuilder := by kernel_rfl
  t5 := Tryz.underlying5
  a5 := Tryz.isAgg5
  z5 := Tryz.sizeOf5
  v5 := Tryz.zeroValue5
  infoByte := by kernel_rfl
  cellsByte := by kernel_rfl
  sizeByte := by kernel_rfl
  neB5 := by decide }
theorem Tryz.strings_Join_none (a : Option Addr) (c : Nat) (sep : ByteArray) (w : World) :
    Calls Tryz.prog 39 #[.slice a 0 c,.string sep] w fun e w' => e = .returned (.string ⟨#[]⟩) ∧ w' = w := Any.strings_Join_none Tryz.lays156 Tryz.Builder_Extra_156 a c sep w
theorem Tryz.strings_Join (bk o c : Nat) (xs : List ByteArray) (sep : ByteArray) (w : World) (hcells : ∀ (j : Nat) x,xs[j]? = some x → w.cell? ⟨bk,o + j,none⟩ = some (.string x)) (hbk : bk < w.heap.size) (hN : xs.length ≤ 140737488355328) (hcap : xs.length ≤ c) (hlen : (Lib.join (xs.map (·.data.toList)) sep.data.toList).length ≤ 140737488355328) :
    Calls Tryz.prog 39 #[.slice (some ⟨bk,o,none⟩) xs.length c,.string sep] w fun e w' => e = .returned (.string ⟨(Lib.join (xs.map (·.data.toList)) sep.data.toList).toArray⟩) ∧ Below w.heap.size w w' := Any.strings_Join Tryz.lays156 Tryz.Builder_Extra_156 bk o c xs sep w hcells hbk hN hcap hlen
def Tryz.laysM171_ren : Go.Shelf.Ren := ⟨fun | 171 => 38 | 243 => 94 | 246 => 137 | 283 => 170 | 284 => 171 | 285 => 172 | 286 => 173 | 129 => 194 | 317 => 193 | 318 => 195 | 319 => 196 | 320 => 197 | 337 => 207 | 338 => 208 | n => n,fun | 3 => 3 | 9 => 9 | 2 => 2 | 4 => 4 | 171 => 220 | 0 => 0 | 53 => 221 | 37 => 157 | 5 => 5 | 173 => 224 | 212 => 245 | 51 => 239 | 20 => 20 | 213 => 246 | 46 => 217 | 232 => 266 | 233 => 267 | n => n,fun | 17 => 6 | 18 => 11 | 19 => 12 | n => n⟩
theorem Tryz.laysM171 : Go.Proofs.LaysM.n171 Tryz.prog Tryz.laysM171_ren := {
  mixed := by kernel_rfl
  f129 := Tryz.func194.trans (congrArg some (by kernel_rfl))
  f171 := Tryz.func38.trans (congrArg some (by kernel_rfl))
  f243 := Tryz.func94.trans (congrArg some (by kernel_rfl))
  f246 := Tryz.func137.trans (congrArg some (by kernel_rfl))
  f283 := Tryz.func170.trans (congrArg some (by kernel_rfl))
  f284 := Tryz.func171.trans (congrArg some (by kernel_rfl))
  f285 := Tryz.func172.trans (congrArg some (by kernel_rfl))
  f286 := Tryz.func173.trans (congrArg some (by kernel_rfl))
  f317 := Tryz.func193.trans (congrArg some (by kernel_rfl))
  f318 := Tryz.func195.trans (congrArg some (by kernel_rfl))
  f319 := Tryz.func196.trans (congrArg some (by kernel_rfl))
  f320 := Tryz.func197.trans (congrArg some (by kernel_rfl))
  f337 := Tryz.func207.trans (congrArg some (by kernel_rfl))
  f338 := Tryz.func208.trans (congrArg some (by kernel_rfl))
  t0 := Tryz.underlying0
  a0 := Tryz.isAgg0
  z0 := Tryz.sizeOf0
  v0 := Tryz.zeroValue0
  t2 := Tryz.underlying2
  a2 := Tryz.isAgg2
  z2 := Tryz.sizeOf2
  v2 := Tryz.zeroValue2
  t3 := Tryz.underlying3
  a3 := Tryz.isAgg3
  z3 := Tryz.sizeOf3
  v3 := Tryz.zeroValue3
  t4 := Tryz.underlying4
  a4 := Tryz.isAgg4
  z4 := Tryz.sizeOf4
  v4 := Tryz.zeroValue4
  t5 := Tryz.underlying5
  a5 := Tryz.isAgg5
  z5 := Tryz.sizeOf5
  v5 := Tryz.zeroValue5
  t9 := Tryz.underlying9
  a9 := Tryz.isAgg9
  z9 := Tryz.sizeOf9
  v9 := Tryz.zeroValue9
  t20 := Tryz.underlying20
  a20 := Tryz.isAgg20
  z20 := Tryz.sizeOf20
  v20 := Tryz.zeroValue20
  t37 := Tryz.underlying157
  a37 := Tryz.isAgg157
  z37 := Tryz.sizeOf157
  v37 := Tryz.zeroValue157
  t46 := Tryz.underlying217
  a46 := Tryz.isAgg217
  z46 := Tryz.sizeOf217
  v46 := Tryz.zeroValue217
  t51 := Tryz.underlying239
  a51 := Tryz.isAgg239
  z51 := Tryz.sizeOf239
  v51 := Tryz.zeroValue239
  t53 := Tryz.underlying221
  a53 := Tryz.isAgg221
  z53 := Tryz.sizeOf221
  v53 := Tryz.zeroValue221
  t171 := Tryz.underlying220
  a171 := Tryz.isAgg220
  z171 := Tryz.sizeOf220
  v171 := Tryz.zeroValue220
  t173 := Tryz.underlying224
  a173 := Tryz.isAgg224
  z173 := Tryz.sizeOf224
  v173 := Tryz.zeroValue224
  t212 := Tryz.underlying245
  a212 := Tryz.isAgg245
  z212 := Tryz.sizeOf245
  v212 := Tryz.zeroValue245
  t213 := Tryz.underlying246
  a213 := Tryz.isAgg246
  z213 := Tryz.sizeOf246
  t232 := Tryz.underlying266
  a232 := Tryz.isAgg266
  z232 := Tryz.sizeOf266
  v232 := Tryz.zeroValue266
  t233 := Tryz.underlying267
  a233 := Tryz.isAgg267
  z233 := Tryz.sizeOf267
  v233 := Tryz.zeroValue267
  g17 := by kernel_rfl
  g18 := by kernel_rfl
  g19 := by kernel_rfl
  i0 := by kernel_rfl
  i2 := by kernel_rfl
  i3 := by kernel_rfl
  i4 := by kernel_rfl
  i5 := by kernel_rfl
  i9 := by kernel_rfl
  i20 := by kernel_rfl
  i37 := by kernel_rfl
  i46 := by kernel_rfl
  i51 := by kernel_rfl
  i53 := by kernel_rfl
  i171 := by kernel_rfl
  i173 := by kernel_rfl
  i212 := by kernel_rfl
  i232 := by kernel_rfl
  i233 := by kernel_rfl
  m17 := by kernel_rfl
  m18 := by kernel_rfl
  m19 := by kernel_rfl }
theorem Tryz.strconv_Itoa (n : Int) (h0 : -9223372036854775808 ≤ n) (h1 : n ≤ 9223372036854775807) (w : World) (htab : Lib.TabIs Tryz.prog w "internal/strconv.uint64pow10" .u64 Lib.pow10Tab) :
    Calls Tryz.prog 38 #[.int .i64 n] w fun e w' => e = .returned (.string ⟨(Lib.itoa n).toArray⟩) ∧ ∃ k os,w' = grow (w.drewN k) os := Any.strconv_Itoa Tryz.laysM171 n h0 h1 w htab
def Tryz.laysC172_ren : Go.Shelf.Ren := ⟨fun | 172 => 41 | 244 => 99 | 245 => 100 | 247 => 143 | 279 => 144 | 280 => 145 | 281 => 146 | 282 => 147 | 287 => 177 | 316 => 178 | 171 => 38 | 205 => 179 | 321 => 198 | 322 => 199 | 243 => 94 | 246 => 137 | 283 => 170 | 284 => 171 | 285 => 172 | 286 => 173 | 129 => 194 | 317 => 193 | 318 => 195 | 319 => 196 | 320 => 197 | 337 => 207 | 338 => 208 | n => n,fun | 9 => 9 | 3 => 3 | 75 => 94 | 76 => 95 | 4 => 4 | 5 => 5 | 167 => 201 | 37 => 157 | 0 => 0 | 85 => 202 | 2 => 2 | 168 => 204 | 53 => 221 | 175 => 229 | 46 => 217 | 210 => 233 | 127 => 196 | 145 => 255 | 143 => 253 | 21 => 21 | 171 => 220 | 173 => 224 | 212 => 245 | 51 => 239 | 20 => 20 | 213 => 246 | 232 => 266 | 233 => 267 | 80 => 161 | n => n,fun | 15 => 3 | 16 => 4 | 17 => 6 | 18 => 11 | 19 => 12 | n => n⟩
theorem Tryz.laysC172 : Go.Proofs.LaysC.n172 Tryz.prog Tryz.laysC172_ren := {
  mixed := by kernel_rfl
  f129 := Tryz.func194.trans (congrArg some (by kernel_rfl))
  f171 := Tryz.func38.trans (congrArg some (by kernel_rfl))
  f172 := Tryz.func41.trans (congrArg some (by kernel_rfl))
  f205 := Tryz.func179.trans (congrArg some (by kernel_rfl))
  f243 := Tryz.func94.trans (congrArg some (by kernel_rfl))
  f244 := Tryz.func99.trans (congrArg some (by kernel_rfl))
  f245 := Tryz.func100.trans (congrArg some (by kernel_rfl))
  f246 := Tryz.func137.trans (congrArg some (by kernel_rfl))
  f247 := Tryz.func143.trans (congrArg some (by kernel_rfl))
  f279 := Tryz.func144.trans (congrArg some (by kernel_rfl))
  f280 := Tryz.func145.trans (congrArg some (by kernel_rfl))
  f281 := Tryz.func146.trans (congrArg some (by kernel_rfl))
  f282 := Tryz.func147.trans (congrArg some (by kernel_rfl))
  f283 := Tryz.func170.trans (congrArg some (by kernel_rfl))
  f284 := Tryz.func171.trans (congrArg some (by kernel_rfl))
  f285 := Tryz.func172.trans (congrArg some (by kernel_rfl))
  f286 := Tryz.func173.trans (congrArg some (by kernel_rfl))
  f287 := Tryz.func177.trans (congrArg some (by kernel_rfl))
  f316 := Tryz.func178.trans (congrArg some (by kernel_rfl))
  f317 := Tryz.func193.trans (congrArg some (by kernel_rfl))
  f318 := Tryz.func195.trans (congrArg some (by kernel_rfl))
  f319 := Tryz.func196.trans (congrArg some (by kernel_rfl))
  f320 := Tryz.func197.trans (congrArg some (by kernel_rfl))
  f321 := Tryz.func198.trans (congrArg some (by kernel_rfl))
  f322 := Tryz.func199.trans (congrArg some (by kernel_rfl))
  f337 := Tryz.func207.trans (congrArg some (by kernel_rfl))
  f338 := Tryz.func208.trans (congrArg some (by kernel_rfl))
  t0 := Tryz.underlying0
  a0 := Tryz.isAgg0
  z0 := Tryz.sizeOf0
  v0 := Tryz.zeroValue0
  t2 := Tryz.underlying2
  a2 := Tryz.isAgg2
  z2 := Tryz.sizeOf2
  v2 := Tryz.zeroValue2
  t3 := Tryz.underlying3
  a3 := Tryz.isAgg3
  z3 := Tryz.sizeOf3
  v3 := Tryz.zeroValue3
  t4 := Tryz.underlying4
  a4 := Tryz.isAgg4
  z4 := Tryz.sizeOf4
  v4 := Tryz.zeroValue4
  t5 := Tryz.underlying5
  a5 := Tryz.isAgg5
  z5 := Tryz.sizeOf5
  v5 := Tryz.zeroValue5
  t9 := Tryz.underlying9
  a9 := Tryz.isAgg9
  z9 := Tryz.sizeOf9
  v9 := Tryz.zeroValue9
  t20 := Tryz.underlying20
  a20 := Tryz.isAgg20
  z20 := Tryz.sizeOf20
  v20 := Tryz.zeroValue20
  t21 := Tryz.underlying21
  a21 := Tryz.isAgg21
  z21 := Tryz.sizeOf21
  v21 := Tryz.zeroValue21
  t37 := Tryz.underlying157
  a37 := Tryz.isAgg157
  z37 := Tryz.sizeOf157
  v37 := Tryz.zeroValue157
  t46 := Tryz.underlying217
  a46 := Tryz.isAgg217
  z46 := Tryz.sizeOf217
  v46 := Tryz.zeroValue217
  t51 := Tryz.underlying239
  a51 := Tryz.isAgg239
  z51 := Tryz.sizeOf239
  v51 := Tryz.zeroValue239
  t53 := Tryz.underlying221
  a53 := Tryz.isAgg221
  z53 := Tryz.sizeOf221
  v53 := Tryz.zeroValue221
  t75 := Tryz.underlying94
  a75 := Tryz.isAgg94
  z75 := Tryz.sizeOf94
  v75 := Tryz.zeroValue94
  t76 := Tryz.underlying95
  a76 := Tryz.isAgg95
  z76 := Tryz.sizeOf95
  v76 := Tryz.zeroValue95
  t85 := Tryz.underlying202
  a85 := Tryz.isAgg202
  z85 := Tryz.sizeOf202
  v85 := Tryz.zeroValue202
  t127 := Tryz.underlying196
  a127 := Tryz.isAgg196
  z127 := Tryz.sizeOf196
  v127 := Tryz.zeroValue196
  t143 := Tryz.underlying253
  a143 := Tryz.isAgg253
  z143 := Tryz.sizeOf253
  v143 := Tryz.zeroValue253
  t145 := Tryz.underlying255
  a145 := Tryz.isAgg255
  z145 := Tryz.sizeOf255
  v145 := Tryz.zeroValue255
  t167 := Tryz.underlying201
  a167 := Tryz.isAgg201
  z167 := Tryz.sizeOf201
  v167 := Tryz.zeroValue201
  t168 := Tryz.underlying204
  a168 := Tryz.isAgg204
  z168 := Tryz.sizeOf204
  v168 := Tryz.zeroValue204
  t171 := Tryz.underlying220
  a171 := Tryz.isAgg220
  z171 := Tryz.sizeOf220
  v171 := Tryz.zeroValue220
  t173 := Tryz.underlying224
  a173 := Tryz.isAgg224
  z173 := Tryz.sizeOf224
  v173 := Tryz.zeroValue224
  t175 := Tryz.underlying229
  a175 := Tryz.isAgg229
  z175 := Tryz.sizeOf229
  v175 := Tryz.zeroValue229
  t210 := Tryz.underlying233
  a210 := Tryz.isAgg233
  z210 := Tryz.sizeOf233
  v210 := Tryz.zeroValue233
  t212 := Tryz.underlying245
  a212 := Tryz.isAgg245
  z212 := Tryz.sizeOf245
  v212 := Tryz.zeroValue245
  t213 := Tryz.underlying246
  a213 := Tryz.isAgg246
  z213 := Tryz.sizeOf246
  t232 := Tryz.underlying266
  a232 := Tryz.isAgg266
  z232 := Tryz.sizeOf266
  v232 := Tryz.zeroValue266
  t233 := Tryz.underlying267
  a233 := Tryz.isAgg267
  z233 := Tryz.sizeOf267
  v233 := Tryz.zeroValue267
  g15 := by kernel_rfl
  g16 := by kernel_rfl
  g17 := by kernel_rfl
  g18 := by kernel_rfl
  g19 := by kernel_rfl
  t80 := Tryz.underlying161
  a80 := Tryz.isAgg161
  z80 := Tryz.sizeOf161
  v80 := Tryz.zeroValue161
  i0 := by kernel_rfl
  i2 := by kernel_rfl
  i3 := by kernel_rfl
  i4 := by kernel_rfl
  i5 := by kernel_rfl
  i9 := by kernel_rfl
  i20 := by kernel_rfl
  i21 := by kernel_rfl
  i37 := by kernel_rfl
  i46 := by kernel_rfl
  i51 := by kernel_rfl
  i53 := by kernel_rfl
  i75 := by kernel_rfl
  i76 := by kernel_rfl
  i80 := by kernel_rfl
  i85 := by kernel_rfl
  i127 := by kernel_rfl
  i143 := by kernel_rfl
  i145 := by kernel_rfl
  i167 := by kernel_rfl
  i168 := by kernel_rfl
  i171 := by kernel_rfl
  i173 := by kernel_rfl
  i175 := by kernel_rfl
  i210 := by kernel_rfl
  i212 := by kernel_rfl
  i232 := by kernel_rfl
  i233 := by kernel_rfl
  m15 := by kernel_rfl
  m16 := by kernel_rfl
  m17 := by kernel_rfl
  m18 := by kernel_rfl
  m19 := by kernel_rfl
  c0 := by kernel_rfl
  c2 := by kernel_rfl
  c3 := by kernel_rfl
  c4 := by kernel_rfl
  c5 := by kernel_rfl
  c9 := by kernel_rfl
  c20 := by kernel_rfl
  c21 := by kernel_rfl
  c37 := by kernel_rfl
  c46 := by kernel_rfl
  c51 := by kernel_rfl
  c53 := by kernel_rfl
  c75 := by kernel_rfl
  c76 := by kernel_rfl
  c80 := by kernel_rfl
  c85 := by kernel_rfl
  c127 := by kernel_rfl
  c143 := by kernel_rfl
  c145 := by kernel_rfl
  c167 := by kernel_rfl
  c168 := by kernel_rfl
  c171 := by kernel_rfl
  c173 := by kernel_rfl
  c175 := by kernel_rfl
  c210 := by kernel_rfl
  c212 := by kernel_rfl
  c213 := by kernel_rfl
  c232 := by kernel_rfl
  c233 := by kernel_rfl }
theorem Tryz.strconv_Atoi_ok (s : ByteArray) (hmax : s.size ≤ 9223372036854775806) (v : Int) (h : Lib.atoiAll s.data.toList = .ok v) (w : World) :
    Calls Tryz.prog 41 #[.string s] w fun e w' => e = .returned (.tuple #[.int .i64 v,.nilIface]) ∧ (w' = w ∨ ∃ t,w' = Lib.bytesWorld w 5 t) := Any.strconv_Atoi_ok Tryz.laysC172 s hmax v h w
theorem Tryz.strconv_Atoi_syntax (s : ByteArray) (hlim : s.size ≤ 281474976710656) (h : Lib.atoiAll s.data.toList = Lib.atoiAll []) (ev : Value) (w : World) (hv : w.cell? ⟨3,0,none⟩ = some ev) (hev : ev = .nilIface ∨ ∃ te pe,ev = .iface te pe) :
    Calls Tryz.prog 41 #[.string s] w fun e w' => ∃ N,e = .returned (.tuple #[.int .i64 (0),.iface 204 (.pointer (some ⟨N,0,none⟩))]) ∧ w.heap.size ≤ N ∧ w'.heap[N]? = some (.cells #[.string ⟨#[65,116,111,105]⟩,.string s,ev] 233 (0,0)) ∧ Below w.heap.size w w' := Any.strconv_Atoi_syntax Tryz.laysC172 s hlim h ev w hv hev
theorem Tryz.strconv_Atoi_range (s : ByteArray) (hlim : s.size ≤ 281474976710656) (h : Lib.atoiAll s.data.toList = .range) (ev : Value) (w : World) (hv : w.cell? ⟨4,0,none⟩ = some ev) (hev : ev = .nilIface ∨ ∃ te pe,ev = .iface te pe) :
    Calls Tryz.prog 41 #[.string s] w fun e w' => ∃ N,e = .returned (.tuple #[.int .i64 (Lib.atoiSat s.data.toList),.iface 204 (.pointer (some ⟨N,0,none⟩))]) ∧ w.heap.size ≤ N ∧ w'.heap[N]? = some (.cells #[.string ⟨#[65,116,111,105]⟩,.string s,ev] 233 (0,0)) ∧ Below w.heap.size w w' := Any.strconv_Atoi_range Tryz.laysC172 s hlim h ev w hv hev
def Tryz.lays143_ren : Go.Shelf.Ren := ⟨fun | 143 => 142 | 219 => 155 | 217 => 183 | 225 => 184 | 224 => 185 | 267 => 186 | 266 => 205 | 314 => 206 | n => n,fun | 9 => 9 | 3 => 3 | 4 => 4 | 5 => 5 | 46 => 217 | 146 => 240 | 51 => 239 | n => n,fun | 1 => 5 | n => n⟩
theorem Tryz.lays143 : Go.Proofs.Lays.n143 Tryz.prog Tryz.lays143_ren := {
  mixed := by kernel_rfl
  f143 := Tryz.func142.trans (congrArg some (by kernel_rfl))
  f217 := Tryz.func183.trans (congrArg some (by kernel_rfl))
  f219 := Tryz.func155.trans (congrArg some (by kernel_rfl))
  f224 := Tryz.func185.trans (congrArg some (by kernel_rfl))
  f225 := Tryz.func184.trans (congrArg some (by kernel_rfl))
  f266 := Tryz.func205.trans (congrArg some (by kernel_rfl))
  f267 := Tryz.func186.trans (congrArg some (by kernel_rfl))
  f314 := Tryz.func206.trans (congrArg some (by kernel_rfl))
  t3 := Tryz.underlying3
  a3 := Tryz.isAgg3
  z3 := Tryz.sizeOf3
  v3 := Tryz.zeroValue3
  t4 := Tryz.underlying4
  a4 := Tryz.isAgg4
  z4 := Tryz.sizeOf4
  v4 := Tryz.zeroValue4
  t5 := Tryz.underlying5
  a5 := Tryz.isAgg5
  z5 := Tryz.sizeOf5
  v5 := Tryz.zeroValue5
  t9 := Tryz.underlying9
  a9 := Tryz.isAgg9
  z9 := Tryz.sizeOf9
  v9 := Tryz.zeroValue9
  t46 := Tryz.underlying217
  a46 := Tryz.isAgg217
  z46 := Tryz.sizeOf217
  v46 := Tryz.zeroValue217
  t51 := Tryz.underlying239
  a51 := Tryz.isAgg239
  z51 := Tryz.sizeOf239
  v51 := Tryz.zeroValue239
  t146 := Tryz.underlying240
  a146 := Tryz.isAgg240
  z146 := Tryz.sizeOf240
  v146 := Tryz.zeroValue240
  g1 := by kernel_rfl }
theorem Tryz.strings_Index (s sub : ByteArray) (m : Int) (w : World) (hs : s.size < 4294967281) (hm : w.cell? ⟨5,0,none⟩ = some (.int .i64 m)) :
    Calls Tryz.prog 142 #[.string s,.string sub] w fun e w' => e = .returned (.int .i64 (Lib.index s.data.toList sub.data.toList)) ∧ w' = w := Any.strings_Index Tryz.lays143 s sub m w hs hm
def Tryz.lays145_ren : Go.Shelf.Ren := ⟨fun | 145 => 57 | 220 => 117 | 219 => 155 | 217 => 183 | 225 => 184 | 224 => 185 | 267 => 186 | 266 => 205 | 314 => 206 | n => n,fun | 9 => 9 | 4 => 4 | 59 => 120 | 3 => 3 | 5 => 5 | 46 => 217 | 146 => 240 | 51 => 239 | n => n,fun | 1 => 5 | n => n⟩
theorem Tryz.lays145 : Go.Proofs.Lays.n145 Tryz.prog Tryz.lays145_ren := {
  mixed := by kernel_rfl
  f145 := Tryz.func57.trans (congrArg some (by kernel_rfl))
  f217 := Tryz.func183.trans (congrArg some (by kernel_rfl))
  f219 := Tryz.func155.trans (congrArg some (by kernel_rfl))
  f220 := Tryz.func117.trans (congrArg some (by kernel_rfl))
  f224 := Tryz.func185.trans (congrArg some (by kernel_rfl))
  f225 := Tryz.func184.trans (congrArg some (by kernel_rfl))
  f266 := Tryz.func205.trans (congrArg some (by kernel_rfl))
  f267 := Tryz.func186.trans (congrArg some (by kernel_rfl))
  f314 := Tryz.func206.trans (congrArg some (by kernel_rfl))
  t3 := Tryz.underlying3
  a3 := Tryz.isAgg3
  z3 := Tryz.sizeOf3
  v3 := Tryz.zeroValue3
  t4 := Tryz.underlying4
  a4 := Tryz.isAgg4
  z4 := Tryz.sizeOf4
  v4 := Tryz.zeroValue4
  t5 := Tryz.underlying5
  a5 := Tryz.isAgg5
  z5 := Tryz.sizeOf5
  v5 := Tryz.zeroValue5
  t9 := Tryz.underlying9
  a9 := Tryz.isAgg9
  z9 := Tryz.sizeOf9
  v9 := Tryz.zeroValue9
  t46 := Tryz.underlying217
  a46 := Tryz.isAgg217
  z46 := Tryz.sizeOf217
  v46 := Tryz.zeroValue217
  t51 := Tryz.underlying239
  a51 := Tryz.isAgg239
  z51 := Tryz.sizeOf239
  v51 := Tryz.zeroValue239
  t59 := Tryz.underlying120
  a59 := Tryz.isAgg120
  z59 := Tryz.sizeOf120
  v59 := Tryz.zeroValue120
  t146 := Tryz.underlying240
  a146 := Tryz.isAgg240
  z146 := Tryz.sizeOf240
  v146 := Tryz.zeroValue240
  g1 := by kernel_rfl }
theorem Tryz.strings_Cut (s sep : ByteArray) (m : Int) (w : World) (hs : s.size < 4294967281) (hm : w.cell? ⟨5,0,none⟩ = some (.int .i64 m)) :
    Calls Tryz.prog 57 #[.string s,.string sep] w fun e w' => e = .returned (.tuple #[.string ⟨(Lib.cut s.data.toList sep.data.toList).1.toArray⟩,.string ⟨(Lib.cut s.data.toList sep.data.toList).2.1.toArray⟩,.bool (Lib.cut s.data.toList sep.data.toList).2.2]) ∧ ∃ n,w' = w.drewN n := Any.strings_Cut Tryz.lays145 s sep m w hs hm
def Tryz.lays101_ren : Go.Shelf.Ren := ⟨fun | 101 => 42 | 208 => 101 | 206 => 148 | n => n,fun | 9 => 9 | 4 => 4 | 3 => 3 | n => n,fun | n => n⟩
theorem Tryz.lays101 : Go.Proofs.Lays.n101 Tryz.prog Tryz.lays101_ren := {
  mixed := by kernel_rfl
  f101 := Tryz.func42.trans (congrArg some (by kernel_rfl))
  f206 := Tryz.func148.trans (congrArg some (by kernel_rfl))
  f208 := Tryz.func101.trans (congrArg some (by kernel_rfl))
  t3 := Tryz.underlying3
  a3 := Tryz.isAgg3
  z3 := Tryz.sizeOf3
  v3 := Tryz.zeroValue3
  t4 := Tryz.underlying4
  a4 := Tryz.isAgg4
  z4 := Tryz.sizeOf4
  v4 := Tryz.zeroValue4
  t9 := Tryz.underlying9
  a9 := Tryz.isAgg9
  z9 := Tryz.sizeOf9
  v9 := Tryz.zeroValue9 }
theorem Tryz.strings_TrimPrefix (s p : ByteArray) (w : World) :
    Calls Tryz.prog 42 #[.string s,.string p] w fun e w' => e = .returned (.string ⟨(Lib.trimPrefix s.data.toList p.data.toList).toArray⟩) ∧ w' = w := Any.strings_TrimPrefix Tryz.lays101 s p w
def Tryz.lays146_ren : Go.Shelf.Ren := ⟨fun | 146 => 60 | 221 => 118 | 268 => 156 | 138 => 157 | 143 => 142 | 195 => 187 | 197 => 141 | 218 => 188 | 219 => 155 | 260 => 176 | 217 => 183 | 225 => 184 | 224 => 185 | 267 => 186 | 266 => 205 | 314 => 206 | n => n,fun | 9 => 9 | 31 => 87 | 3 => 3 | 4 => 4 | 0 => 0 | 105 => 198 | 21 => 21 | 5 => 5 | 46 => 217 | 119 => 248 | 139 => 251 | 138 => 250 | 146 => 240 | 51 => 239 | n => n,fun | 1 => 5 | 3 => 7 | 4 => 8 | n => n⟩
theorem Tryz.lays146 : Go.Proofs.Lays.n146 Tryz.prog Tryz.lays146_ren := {
  mixed := by kernel_rfl
  f138 := Tryz.func157.trans (congrArg some (by kernel_rfl))
  f143 := Tryz.func142.trans (congrArg some (by kernel_rfl))
  f146 := Tryz.func60.trans (congrArg some (by kernel_rfl))
  f195 := Tryz.func187.trans (congrArg some (by kernel_rfl))
  f197 := Tryz.func141.trans (congrArg some (by kernel_rfl))
  f217 := Tryz.func183.trans (congrArg some (by kernel_rfl))
  f218 := Tryz.func188.trans (congrArg some (by kernel_rfl))
  f219 := Tryz.func155.trans (congrArg some (by kernel_rfl))
  f221 := Tryz.func118.trans (congrArg some (by kernel_rfl))
  f224 := Tryz.func185.trans (congrArg some (by kernel_rfl))
  f225 := Tryz.func184.trans (congrArg some (by kernel_rfl))
  f260 := Tryz.func176.trans (congrArg some (by kernel_rfl))
  f266 := Tryz.func205.trans (congrArg some (by kernel_rfl))
  f267 := Tryz.func186.trans (congrArg some (by kernel_rfl))
  f268 := Tryz.func156.trans (congrArg some (by kernel_rfl))
  f314 := Tryz.func206.trans (congrArg some (by kernel_rfl))
  t0 := Tryz.underlying0
  a0 := Tryz.isAgg0
  z0 := Tryz.sizeOf0
  v0 := Tryz.zeroValue0
  t3 := Tryz.underlying3
  a3 := Tryz.isAgg3
  z3 := Tryz.sizeOf3
  v3 := Tryz.zeroValue3
  t4 := Tryz.underlying4
  a4 := Tryz.isAgg4
  z4 := Tryz.sizeOf4
  v4 := Tryz.zeroValue4
  t5 := Tryz.underlying5
  a5 := Tryz.isAgg5
  z5 := Tryz.sizeOf5
  v5 := Tryz.zeroValue5
  t9 := Tryz.underlying9
  a9 := Tryz.isAgg9
  z9 := Tryz.sizeOf9
  v9 := Tryz.zeroValue9
  t21 := Tryz.underlying21
  a21 := Tryz.isAgg21
  z21 := Tryz.sizeOf21
  v21 := Tryz.zeroValue21
  t31 := Tryz.underlying87
  a31 := Tryz.isAgg87
  z31 := Tryz.sizeOf87
  v31 := Tryz.zeroValue87
  t46 := Tryz.underlying217
  a46 := Tryz.isAgg217
  z46 := Tryz.sizeOf217
  v46 := Tryz.zeroValue217
  t51 := Tryz.underlying239
  a51 := Tryz.isAgg239
  z51 := Tryz.sizeOf239
  v51 := Tryz.zeroValue239
  t105 := Tryz.underlying198
  a105 := Tryz.isAgg198
  z105 := Tryz.sizeOf198
  v105 := Tryz.zeroValue198
  t119 := Tryz.underlying248
  a119 := Tryz.isAgg248
  z119 := Tryz.sizeOf248
  t138 := Tryz.underlying250
  a138 := Tryz.isAgg250
  z138 := Tryz.sizeOf250
  v138 := Tryz.zeroValue250
  t139 := Tryz.underlying251
  a139 := Tryz.isAgg251
  z139 := Tryz.sizeOf251
  v139 := Tryz.zeroValue251
  t146 := Tryz.underlying240
  a146 := Tryz.isAgg240
  z146 := Tryz.sizeOf240
  v146 := Tryz.zeroValue240
  g1 := by kernel_rfl
  g3 := by kernel_rfl
  g4 := by kernel_rfl }
theorem Tryz.strings_Split (s sep : ByteArray) (m : Int) (w : World) (hs : s.size < 4294967281) (hm : w.cell? ⟨5,0,none⟩ = some (.int .i64 m)) (h1 : 1 ≤ sep.size) :
    Calls Tryz.prog 60 #[.string s,.string sep] w fun e w' =>
      e = .returned (.slice (some ⟨w.heap.size,0,none⟩) (Lib.countB s sep + 1) (Lib.countB s sep + 1)) ∧ w' = w.alloc (.cells ((Lib.splitB sep 0 (Lib.countB s sep) s).map Value.string).toArray 9) := Any.strings_Split Tryz.lays146 (by kernel_rfl) s sep m w hs hm h1
def Tryz.lays147_ren : Go.Shelf.Ren := ⟨fun | 147 => 62 | 221 => 118 | 268 => 156 | 138 => 157 | 143 => 142 | 195 => 187 | 197 => 141 | 218 => 188 | 219 => 155 | 260 => 176 | 217 => 183 | 225 => 184 | 224 => 185 | 267 => 186 | 266 => 205 | 314 => 206 | n => n,fun | 9 => 9 | 3 => 3 | 31 => 87 | 4 => 4 | 0 => 0 | 105 => 198 | 21 => 21 | 5 => 5 | 46 => 217 | 119 => 248 | 139 => 251 | 138 => 250 | 146 => 240 | 51 => 239 | n => n,fun | 1 => 5 | 3 => 7 | 4 => 8 | n => n⟩
theorem Tryz.lays147 : Go.Proofs.Lays.n147 Tryz.prog Tryz.lays147_ren := {
  mixed := by kernel_rfl
  f138 := Tryz.func157.trans (congrArg some (by kernel_rfl))
  f143 := Tryz.func142.trans (congrArg some (by kernel_rfl))
  f147 := Tryz.func62.trans (congrArg some (by kernel_rfl))
  f195 := Tryz.func187.trans (congrArg some (by kernel_rfl))
  f197 := Tryz.func141.trans (congrArg some (by kernel_rfl))
  f217 := Tryz.func183.trans (congrArg some (by kernel_rfl))
  f218 := Tryz.func188.trans (congrArg some (by kernel_rfl))
  f219 := Tryz.func155.trans (congrArg some (by kernel_rfl))
  f221 := Tryz.func118.trans (congrArg some (by kernel_rfl))
  f224 := Tryz.func185.trans (congrArg some (by kernel_rfl))
  f225 := Tryz.func184.trans (congrArg some (by kernel_rfl))
  f260 := Tryz.func176.trans (congrArg some (by kernel_rfl))
  f266 := Tryz.func205.trans (congrArg some (by kernel_rfl))
  f267 := Tryz.func186.trans (congrArg some (by kernel_rfl))
  f268 := Tryz.func156.trans (congrArg some (by kernel_rfl))
  f314 := Tryz.func206.trans (congrArg some (by kernel_rfl))
  t0 := Tryz.underlying0
  a0 := Tryz.isAgg0
  z0 := Tryz.sizeOf0
  v0 := Tryz.zeroValue0
  t3 := Tryz.underlying3
  a3 := Tryz.isAgg3
  z3 := Tryz.sizeOf3
  v3 := Tryz.zeroValue3
  t4 := Tryz.underlying4
  a4 := Tryz.isAgg4
  z4 := Tryz.sizeOf4
  v4 := Tryz.zeroValue4
  t5 := Tryz.underlying5
  a5 := Tryz.isAgg5
  z5 := Tryz.sizeOf5
  v5 := Tryz.zeroValue5
  t9 := Tryz.underlying9
  a9 := Tryz.isAgg9
  z9 := Tryz.sizeOf9
  v9 := Tryz.zeroValue9
  t21 := Tryz.underlying21
  a21 := Tryz.isAgg21
  z21 := Tryz.sizeOf21
  v21 := Tryz.zeroValue21
  t31 := Tryz.underlying87
  a31 := Tryz.isAgg87
  z31 := Tryz.sizeOf87
  v31 := Tryz.zeroValue87
  t46 := Tryz.underlying217
  a46 := Tryz.isAgg217
  z46 := Tryz.sizeOf217
  v46 := Tryz.zeroValue217
  t51 := Tryz.underlying239
  a51 := Tryz.isAgg239
  z51 := Tryz.sizeOf239
  v51 := Tryz.zeroValue239
  t105 := Tryz.underlying198
  a105 := Tryz.isAgg198
  z105 := Tryz.sizeOf198
  v105 := Tryz.zeroValue198
  t119 := Tryz.underlying248
  a119 := Tryz.isAgg248
  z119 := Tryz.sizeOf248
  t138 := Tryz.underlying250
  a138 := Tryz.isAgg250
  z138 := Tryz.sizeOf250
  v138 := Tryz.zeroValue250
  t139 := Tryz.underlying251
  a139 := Tryz.isAgg251
  z139 := Tryz.sizeOf251
  v139 := Tryz.zeroValue251
  t146 := Tryz.underlying240
  a146 := Tryz.isAgg240
  z146 := Tryz.sizeOf240
  v146 := Tryz.zeroValue240
  g1 := by kernel_rfl
  g3 := by kernel_rfl
  g4 := by kernel_rfl }
theorem Tryz.strings_SplitN (s sep : ByteArray) (n : Nat) (m : Int) (w : World) (hs : s.size < 4294967281) (hm : w.cell? ⟨5,0,none⟩ = some (.int .i64 m)) (h1 : 1 ≤ sep.size) (hn : 1 ≤ n) (hn63 : n ≤ 9223372036854775807) :
    Calls Tryz.prog 62 #[.string s,.string sep,.int .i64 n] w fun e w' =>
      e = .returned (.slice (some ⟨w.heap.size,0,none⟩) (Lib.splitB sep 0 (min n (s.size + 1) - 1) s).length (min n (s.size + 1))) ∧ w' = w.alloc (.cells (Lib.cellsOf (Lib.splitB sep 0 (min n (s.size + 1) - 1) s) (min n (s.size + 1))) 9) := Any.strings_SplitN Tryz.lays147 (by kernel_rfl) s sep n m w hs hm h1 hn hn63
end Go.Proofs

namespace Go.Lq
open Go
open Go.Proofs
def tabRow : Array Value := (Lib.pow10Tab.map fun z => Value.int .u64 z).toArray
structure StrH (H : AHeap) : Prop where
  max : ∃ m,H[5]? = some (.cells false 1 [.int .i64 m])
  tab : H[6]? = some (.row tabRow)
  syn : ∃ t,H[3]? = some (.cells false 1 [.iface t junk])
  rng : ∃ t,H[4]? = some (.cells false 1 [.iface t junk])
theorem ext_at {H H' : AHeap} (hx : Ext H H') {i : Nat} {c : AObj} (h : H[i]? = some c) : H'[i]? = some c := by rw [hx.get (List.getElem?_eq_some_iff.1 h).1]; exact h
theorem StrH.ext {H H' : AHeap} (h : StrH H) (hx : Ext H H') : StrH H' := by
  obtain ⟨m,h1⟩ := h.max
  obtain ⟨t,h2⟩ := h.syn
  obtain ⟨u,h3⟩ := h.rng
  exact ⟨⟨m,ext_at hx h1⟩,ext_at hx h.tab,⟨t,ext_at hx h2⟩,⟨u,ext_at hx h3⟩⟩
section
variable {H : AHeap} {base : Nat} {β : Beta} {w : World}
theorem gTab : Go.Proofs.Tryz.prog.globalNamed "internal/strconv.uint64pow10" = some 6 := by kernel_rfl
theorem gSize : Go.Proofs.Tryz.prog.globals.size = 13 := by kernel_rfl
theorem Inj.glob_cell (hi : Inj Go.Proofs.Tryz.prog β H base w) {g : Nat} (hg : g < 13) {v : Value} (h : H[g]? = some (.cells false 1 [v])) : ∃ cv,w.cell? ⟨g,0,none⟩ = some cv ∧ VR β v cv := by
  obtain ⟨r,hr⟩ := hi.glob g (by rw [gSize]; exact hg)
  have := cell_rel (k := 0) (v := v) hi hr (by unfold cellAt; rw [h]; rfl)
  simpa using this
theorem StrH.maxLen (hs : StrH H) (hi : Inj Go.Proofs.Tryz.prog β H base w) : ∃ m,w.cell? ⟨5,0,none⟩ = some (.int .i64 m) := by
  obtain ⟨m,h⟩ := hs.max
  obtain ⟨cv,h1,h2⟩ := hi.glob_cell (by decide) h
  exact ⟨m,by rw [h1,h2.num]⟩
theorem StrH.errCell (hs : StrH H) (hi : Inj Go.Proofs.Tryz.prog β H base w) {g : Nat} (hg : g = 3 ∨ g = 4) : ∃ te pe,w.cell? ⟨g,0,none⟩ = some (.iface te pe) := by
  rcases hg with rfl | rfl
  · obtain ⟨t,h⟩ := hs.syn
    obtain ⟨cv,h1,h2⟩ := hi.glob_cell (by decide) h
    obtain ⟨v',rfl⟩ := h2.iface_inv
    exact ⟨t,v',h1⟩
  · obtain ⟨t,h⟩ := hs.rng
    obtain ⟨cv,h1,h2⟩ := hi.glob_cell (by decide) h
    obtain ⟨v',rfl⟩ := h2.iface_inv
    exact ⟨t,v',h1⟩
theorem StrH.tabIs (hs : StrH H) (hi : Inj Go.Proofs.Tryz.prog β H base w) : Lib.TabIs Go.Proofs.Tryz.prog w "internal/strconv.uint64pow10" .u64 Lib.pow10Tab := by
  obtain ⟨r,hr⟩ := hi.glob 6 (by rw [gSize]; decide)
  have ho := hi.obj 6 _ hr
  rw [hs.tab] at ho
  obtain ⟨t,fz,h⟩ := ho
  unfold Lib.TabIs World.var?
  rw [gTab]
  simp only [Option.bind_some,h]
  rfl
theorem cargs1 {v : Value} {cargs : Array Value} (h : cargs.toList = [v]) : cargs = #[v] := by rw [← Array.toArray_toList (xs := cargs),h]
theorem cargs2 {v u : Value} {cargs : Array Value} (h : cargs.toList = [v,u]) : cargs = #[v,u] := by rw [← Array.toArray_toList (xs := cargs),h]
theorem bs_mk (l : List UInt8) : (⟨l.toArray⟩ : ByteArray) = bs l := rfl
theorem itoa_c (hs : StrH H) {n : Int} (h0 : -9223372036854775808 ≤ n) (h1 : n ≤ 9223372036854775807) : ACall Go.Proofs.Tryz.prog 38 [.int .i64 n] H fun v H' => v = .string (bs (Lib.itoa n)) ∧ H' = H := by
  refine ACall.of_calls ⟨_,Go.Proofs.Tryz.func38,by kernel_rfl,by kernel_rfl⟩ fun base β w cargs hi hv => ?_
  obtain ⟨y,e,h⟩ := VRs.one hv
  obtain rfl := h.num
  rw [cargs1 e]
  refine (Go.Proofs.Tryz.strconv_Itoa n h0 h1 w (hs.tabIs hi)).mono fun e' w' ⟨he,k,os,hw⟩ => ?_
  subst hw
  exact ⟨_,_,he,.string _,⟨rfl,rfl⟩,Lib.below_grow _ _ (Nat.le_refl _) _ _⟩
theorem VR.pair {β : Beta} {a b c d : Value} (h1 : VR β a c) (h2 : VR β b d) : VR β (.tuple #[a,b]) (.tuple #[c,d]) := .tuple rfl fun i v v' e1 e2 => by
  match i with
  | 0 => simp at e1 e2; subst e1; subst e2; exact h1
  | 1 => simp at e1 e2; subst e1; subst e2; exact h2
  | i + 2 => simp at e1
theorem VR.trip {β : Beta} {a b c d e f : Value} (h1 : VR β a d) (h2 : VR β b e) (h3 : VR β c f) : VR β (.tuple #[a,b,c]) (.tuple #[d,e,f]) := .tuple rfl fun i v v' e1 e2 => by
  match i with
  | 0 => simp at e1 e2; subst e1; subst e2; exact h1
  | 1 => simp at e1 e2; subst e1; subst e2; exact h2
  | 2 => simp at e1 e2; subst e1; subst e2; exact h3
  | i + 3 => simp at e1
def AtoiRes (l : List UInt8) (v : Value) : Prop := (∃ n,Lib.atoiAll l = .ok n ∧ v = .tuple #[.int .i64 n,.nilIface]) ∨ ((∀ n,Lib.atoiAll l ≠ .ok n) ∧ ∃ n t,v = .tuple #[.int .i64 n,.iface t junk])
theorem atoi_c (hs : StrH H) {l : List UInt8} (hl : l.length ≤ 281474976710656) : ACall Go.Proofs.Tryz.prog 41 [.string (bs l)] H fun v H' => AtoiRes l v ∧ H' = H := by
  refine ACall.of_calls ⟨_,Go.Proofs.Tryz.func41,by kernel_rfl,by kernel_rfl⟩ fun base β w cargs hi hv => ?_
  obtain ⟨y,e,h⟩ := VRs.one hv
  obtain rfl := h.str
  rw [cargs1 e]
  have hsz : (bs l).size ≤ 281474976710656 := by rw [bs_size]; exact hl
  cases hr : Lib.atoiAll l
  · rename_i n
    refine (Go.Proofs.Tryz.strconv_Atoi_ok (bs l) (by omega) n (by rw [bs_data]; exact hr) w).mono fun e' w' ⟨he,hw⟩ => ?_
    refine ⟨_,.tuple #[.int .i64 n,.nilIface],he,VR.pair (.int _ _) .nilIface,⟨.inl ⟨n,hr,rfl⟩,rfl⟩,?_⟩
    rcases hw with rfl | ⟨t,rfl⟩
    · exact RowKit.Below.refl _ _
    · exact Lib.bytesWorld_below _ _ _
  · obtain ⟨te,pe,hc⟩ := hs.errCell hi (.inl rfl)
    refine (Go.Proofs.Tryz.strconv_Atoi_syntax (bs l) hsz (by rw [bs_data]; exact hr) _ w hc (.inr ⟨te,pe,rfl⟩)).mono fun e' w' ⟨N,he,_,_,hb⟩ => ?_
    exact ⟨_,.tuple #[.int .i64 0,.iface _ junk],he,VR.pair (.int _ _) (.iface _ (.junk _)),⟨.inr ⟨fun n h => (by rw [hr] at h; cases h),_,_,rfl⟩,rfl⟩,hb⟩
  · obtain ⟨te,pe,hc⟩ := hs.errCell hi (.inr rfl)
    refine (Go.Proofs.Tryz.strconv_Atoi_range (bs l) hsz (by rw [bs_data]; exact hr) _ w hc (.inr ⟨te,pe,rfl⟩)).mono fun e' w' ⟨N,he,_,_,hb⟩ => ?_
    exact ⟨_,.tuple #[.int .i64 _,.iface _ junk],he,VR.pair (.int _ _) (.iface _ (.junk _)),⟨.inr ⟨fun n h => (by rw [hr] at h; cases h),_,_,rfl⟩,rfl⟩,hb⟩
theorem cut_c (hs : StrH H) {l m : List UInt8} (hl : l.length ≤ 281474976) : ACall Go.Proofs.Tryz.prog 57 [.string (bs l),.string (bs m)] H fun v H' =>
    v = .tuple #[.string (bs (Lib.cut l m).1),.string (bs (Lib.cut l m).2.1),.bool (Lib.cut l m).2.2] ∧ H' = H := by
  refine ACall.of_calls ⟨_,Go.Proofs.Tryz.func57,by kernel_rfl,by kernel_rfl⟩ fun base β w cargs hi hv => ?_
  obtain ⟨y,y',e,h,h'⟩ := VRs.two hv
  obtain rfl := h.str
  obtain rfl := h'.str
  rw [cargs2 e]
  obtain ⟨k,hm⟩ := hs.maxLen hi
  refine (Go.Proofs.Tryz.strings_Cut (bs l) (bs m) k w (by rw [bs_size]; omega) hm).mono fun e' w' ⟨he,n,hw⟩ => ?_
  subst hw
  simp only [bs_data,bs_mk] at he
  exact ⟨_,_,he,VR.trip (.string _) (.string _) (.bool _),⟨rfl,rfl⟩,⟨rfl,rfl,rfl,Nat.le_refl _,fun _ _ => rfl⟩⟩
theorem index_c (hs : StrH H) {l m : List UInt8} (hl : l.length ≤ 281474976) : ACall Go.Proofs.Tryz.prog 142 [.string (bs l),.string (bs m)] H fun v H' => v = .int .i64 (Lib.index l m) ∧ H' = H := by
  refine ACall.of_calls ⟨_,Go.Proofs.Tryz.func142,by kernel_rfl,by kernel_rfl⟩ fun base β w cargs hi hv => ?_
  obtain ⟨y,y',e,h,h'⟩ := VRs.two hv
  obtain rfl := h.str
  obtain rfl := h'.str
  rw [cargs2 e]
  obtain ⟨k,hm⟩ := hs.maxLen hi
  refine (Go.Proofs.Tryz.strings_Index (bs l) (bs m) k w (by rw [bs_size]; omega) hm).mono fun e' w' ⟨he,hw⟩ => ?_
  subst hw
  simp only [bs_data] at he
  exact ⟨_,_,he,.int _ _,⟨rfl,rfl⟩,RowKit.Below.refl _ _⟩
theorem split_c (hs : StrH H) {l m : List UInt8} (hl : l.length ≤ 281474976) (hm1 : 1 ≤ m.length) : ACall Go.Proofs.Tryz.prog 60 [.string (bs l),.string (bs m)] H fun v H' =>
    v = .slice (some ⟨H.length,0,none⟩) (Lib.split l m).length (Lib.split l m).length ∧ H' = H ++ [.cells true 1 (strs (Lib.split l m))] := by
  refine ACall.of_row ⟨_,Go.Proofs.Tryz.func60,by kernel_rfl,by kernel_rfl⟩ fun base β w cargs hi hv => ?_
  obtain ⟨y,y',e,h,h'⟩ := VRs.two hv
  obtain rfl := h.str
  obtain rfl := h'.str
  rw [cargs2 e]
  obtain ⟨k,hm⟩ := hs.maxLen hi
  refine (Go.Proofs.Tryz.strings_Split (bs l) (bs m) k w (by rw [bs_size]; omega) hm (by rw [bs_size]; exact hm1)).mono fun e' w' ⟨he,hw⟩ => ?_
  subst hw
  have hd := Lib.splitB_data (bs m) 0 (Lib.countB (bs l) (bs m)) (bs l)
  rw [bs_data,bs_data] at hd
  have hc : Lib.countB (bs l) (bs m) = Lib.count l m := by show Lib.count _ _ = _; rw [bs_data,bs_data]
  have hsp : (Lib.splitB (bs m) 0 (Lib.countB (bs l) (bs m)) (bs l)).map (fun b => b.data.toList) = Lib.split l m := by rw [hd,hc]; rfl
  have hlen : (Lib.split l m).length = Lib.countB (bs l) (bs m) + 1 := by
    rw [← hsp,List.length_map]
    exact Lib.splitB_all (bs m) (by rw [bs_size]; exact hm1) 0 _ _ rfl
  have hst : strs (Lib.split l m) = (Lib.splitB (bs m) 0 (Lib.countB (bs l) (bs m)) (bs l)).map Value.string := by
    unfold strs
    rw [← hsp,List.map_map]
    exact List.map_congr_left fun b _ => by show Value.string (bs b.data.toList) = _; rw [← bs_of]
  refine ⟨strs (Lib.split l m),_,9,1,(Lib.split l m).length,(Lib.split l m).length,Lib.countB (bs l) (bs m) + 1,by rw [he,hlen],rfl,rfl,rfl,rfl,fun i v hiv => ?_,by omega,fun h => by omega,?_,rfl,rfl⟩
  · rw [hst] at hiv
    have hm2 := List.mem_of_getElem? hiv
    obtain ⟨b,_,rfl⟩ := List.mem_map.1 hm2
    exact ⟨_,by rw [← Array.getElem?_toList]; exact hiv,.string _⟩
  · rw [← hst]
    simp [strs,hlen]
theorem join_c {ll : List (List UInt8)} {m : List UInt8} {v : Value} (ht : Txts H ll v) (hn : ll.length ≤ 1000000) (hl : (Lib.join ll m).length ≤ 140737488355328) : ACall Go.Proofs.Tryz.prog 39 [v,.string (bs m)] H fun v' H' =>
    v' = .string (bs (Lib.join ll m)) ∧ H' = H := by
  refine ACall.of_calls ⟨_,Go.Proofs.Tryz.func39,by kernel_rfl,by kernel_rfl⟩ fun base β w cargs hi hv => ?_
  obtain ⟨y,y',e,h,h'⟩ := VRs.two hv
  obtain rfl := h'.str
  rw [cargs2 e]
  by_cases h0 : ll.length = 0
  · obtain rfl := List.length_eq_zero_iff.1 h0
    have : ∃ a c,y = .slice a 0 c := by
      rcases ht.2 with ⟨rfl,_⟩ | ⟨id,off,c,rfl,_⟩
      · exact ⟨_,_,h.nilS⟩
      · cases h with | slice hc h0 ha => exact ⟨_,_,rfl⟩
    obtain ⟨a,c,rfl⟩ := this
    refine (Go.Proofs.Tryz.strings_Join_none a c (bs m) w).mono fun e' w' ⟨he,hw⟩ => ?_
    subst hw
    exact ⟨_,_,he,.string _,⟨rfl,rfl⟩,RowKit.Below.refl _ _⟩
  obtain ⟨id,off,c,rfl,_⟩ := ht.cell (k := 0) (by omega)
  obtain ⟨a,cap,rfl,hcap,hcc,ha⟩ := h.slice_inv
  obtain ⟨p,hp,rfl,_⟩ := ha (.inl (by omega))
  have hcells : ∀ (j : Nat) x,(ll.map bs)[j]? = some x → w.cell? ⟨p.b,p.o + off + j,none⟩ = some (.string x) := fun j x hx => by
    have hj : j < ll.length := by simpa using (List.getElem?_eq_some_iff.1 hx).1
    obtain ⟨id',off',c',e',hc⟩ := ht.cell hj
    cases e'
    obtain ⟨cv,h1,h2⟩ := cell_rel hi hp hc
    obtain rfl := h2.str
    rw [Nat.add_assoc,h1]
    simp [hj] at hx
    rw [← hx]
    simp [hj]
  have hmap : (ll.map bs).map (fun b => b.data.toList) = ll := by
    rw [List.map_map]
    exact (List.map_congr_left fun l _ => bs_data l).trans (List.map_id ll)
  have := Go.Proofs.Tryz.strings_Join p.b (p.o + off) cap (ll.map bs) (bs m) w hcells (hi.lt _ _ hp) (by simp; omega) (by simpa using hcap) (by rw [hmap,bs_data]; exact hl)
  rw [hmap,bs_data,List.length_map] at this
  refine this.mono fun e' w' ⟨he,hb⟩ => ?_
  exact ⟨_,_,he,.string _,⟨rfl,rfl⟩,hb⟩
end
end Go.Lq

namespace Go.Lq
open Go
def E1 : Env :=
  [(.bool false),(.tuple #[]),(.tuple #[]),(.tuple #[]),(.tuple #[]),(.tuple #[]),(.tuple #[]),(.tuple #[]),(.tuple #[]),(.tuple #[]),(.tuple #[]),(.tuple #[]),(.tuple #[]),(.tuple #[]),(.tuple #[]),(.tuple #[]),(.tuple #[]),(.tuple #[]),(.tuple #[]),(.tuple #[]),(.tuple #[]),(.tuple #[]),(.tuple #[]),(.tuple #[]),(.tuple #[]),(.tuple #[]),(.tuple #[]),(.tuple #[]),(.tuple #[]),(.tuple #[]),(.tuple #[]),(.tuple #[]),(.tuple #[]),(.tuple #[]),(.tuple #[]),(.tuple #[]),(.tuple #[]),(.tuple #[]),(.tuple #[]),(.tuple #[]),(.tuple #[]),(.tuple #[]),(.tuple #[]),(.tuple #[]),(.tuple #[]),(.tuple #[]),(.tuple #[]),(.tuple #[]),(.tuple #[]),(.tuple #[]),(.tuple #[]),(.tuple #[]),(.tuple #[]),(.tuple #[]),(.tuple #[]),(.tuple #[]),(.tuple #[]),(.tuple #[]),(.tuple #[]),(.tuple #[]),(.tuple #[]),(.tuple #[]),(.tuple #[]),(.tuple #[]),(.tuple #[]),(.tuple #[]),(.tuple #[]),(.tuple #[])]
def H1 : AHeap :=
  [.dead,(.cells false 5 [(.int .i64 0),(.int .i64 0),.nilFunc,.nilFunc,(.int .i64 0),(.int .i64 0),(.int .i64 64),(.func (.func 232) #[] #[]),(.func (.func 233) #[] #[]),(.int .i64 8192),(.int .i64 0),(.int .i64 0),.nilFunc,.nilFunc,(.int .i64 0),(.int .i64 (-1)),(.int .i64 1572864),(.func (.func 234) #[] #[]),(.func (.func 235) #[] #[]),(.int .i64 402653184)]),.dead,.dead,.dead,.dead,.dead,.dead,.dead,.dead,.dead,.dead,.dead]
def E2 : Env :=
  [(.bool false),(.int .i64 22609920),(.int .i64 1572864),(.int .i64 0),(.tuple #[]),(.tuple #[]),(.tuple #[]),(.tuple #[]),(.tuple #[]),(.tuple #[]),(.tuple #[(.int .i64 22609920),(.int .i64 1572864),(.int .i64 0)]),(.slice (some ⟨13,0,none⟩) 4 4),(.tuple #[(.int .i64 22609920),(.int .i64 1572864),(.int .i64 0)]),(.int .i64 22609920),(.int .i64 1572864),(.int .i64 0),(.tuple #[]),(.tuple #[]),(.tuple #[]),(.tuple #[]),(.tuple #[]),(.tuple #[]),(.tuple #[]),(.tuple #[]),(.tuple #[]),(.tuple #[]),(.tuple #[]),(.tuple #[]),(.tuple #[]),(.tuple #[]),(.tuple #[]),(.tuple #[]),(.tuple #[]),(.tuple #[]),(.tuple #[]),(.tuple #[]),(.tuple #[]),(.tuple #[]),(.tuple #[]),(.tuple #[]),(.tuple #[]),(.tuple #[]),(.tuple #[]),(.tuple #[]),(.tuple #[]),(.tuple #[]),(.tuple #[]),(.tuple #[]),(.tuple #[]),(.tuple #[]),(.tuple #[]),(.tuple #[]),(.tuple #[]),(.tuple #[]),(.tuple #[]),(.tuple #[]),(.tuple #[]),(.tuple #[]),(.tuple #[]),(.tuple #[]),(.tuple #[]),(.tuple #[]),(.tuple #[]),(.tuple #[]),(.tuple #[]),(.tuple #[]),(.tuple #[]),(.tuple #[])]
def H2 : AHeap :=
  [.dead,(.cells false 5 [(.int .i64 0),(.int .i64 0),.nilFunc,.nilFunc,(.int .i64 0),(.int .i64 0),(.int .i64 64),(.func (.func 232) #[] #[]),(.func (.func 233) #[] #[]),(.int .i64 8192),(.int .i64 0),(.int .i64 0),.nilFunc,.nilFunc,(.int .i64 0),(.int .i64 (-1)),(.int .i64 1572864),(.func (.func 234) #[] #[]),(.func (.func 235) #[] #[]),(.int .i64 402653184)]),.dead,.dead,.dead,.dead,.dead,.dead,.dead,.dead,.dead,.dead,.dead,(.cells true 1 [(.int .i64 0),(.int .i64 10),(.int .i64 20),(.int .i64 40)])]
def E3 : Env :=
  [(.bool false),(.int .i64 22609920),(.int .i64 1572864),(.int .i64 0),(.slice (some ⟨17,0,none⟩) 9 9),(.int .i64 0),(.tuple #[]),(.tuple #[]),(.tuple #[]),(.tuple #[]),(.tuple #[(.int .i64 22609920),(.int .i64 1572864),(.int .i64 0)]),(.slice (some ⟨13,0,none⟩) 4 4),(.tuple #[(.int .i64 22609920),(.int .i64 1572864),(.int .i64 0)]),(.int .i64 22609920),(.int .i64 1572864),(.int .i64 0),(.tuple #[(.slice (some ⟨17,0,none⟩) 9 9),(.int .i64 0)]),(.agg #[(.slice (some ⟨15,0,none⟩) 3 3)]),(.agg #[(.int .i64 1),(.int .i64 1),(.int .i64 0),(.int .i64 0),(.int .i64 5),(.slice (some ⟨15,0,none⟩) 3 3)]),(.slice (some ⟨16,0,none⟩) 4 4),(.tuple #[(.slice (some ⟨17,0,none⟩) 9 9),(.int .i64 0)]),(.slice (some ⟨17,0,none⟩) 9 9),(.int .i64 0),(.tuple #[]),(.tuple #[]),(.tuple #[]),(.tuple #[]),(.tuple #[]),(.tuple #[]),(.tuple #[]),(.tuple #[]),(.tuple #[]),(.tuple #[]),(.tuple #[]),(.tuple #[]),(.tuple #[]),(.tuple #[]),(.tuple #[]),(.tuple #[]),(.tuple #[]),(.tuple #[]),(.tuple #[]),(.tuple #[]),(.tuple #[]),(.tuple #[]),(.tuple #[]),(.tuple #[]),(.tuple #[]),(.tuple #[]),(.tuple #[]),(.tuple #[]),(.tuple #[]),(.tuple #[]),(.tuple #[]),(.tuple #[]),(.tuple #[]),(.tuple #[]),(.tuple #[]),(.tuple #[]),(.tuple #[]),(.tuple #[]),(.tuple #[]),(.tuple #[]),(.tuple #[]),(.tuple #[]),(.tuple #[]),(.tuple #[]),(.tuple #[])]
def H3 : AHeap :=
  [.dead,(.cells false 5 [(.int .i64 0),(.int .i64 0),.nilFunc,.nilFunc,(.int .i64 0),(.int .i64 0),(.int .i64 64),(.func (.func 232) #[] #[]),(.func (.func 233) #[] #[]),(.int .i64 8192),(.int .i64 0),(.int .i64 0),.nilFunc,.nilFunc,(.int .i64 0),(.int .i64 (-1)),(.int .i64 1572864),(.func (.func 234) #[] #[]),(.func (.func 235) #[] #[]),(.int .i64 402653184)]),.dead,.dead,.dead,.dead,.dead,.dead,.dead,.dead,.dead,.dead,.dead,(.cells true 1 [(.int .i64 0),(.int .i64 10),(.int .i64 20),(.int .i64 40)]),(.cells true 0 [(.slice (some ⟨15,0,none⟩) 3 3)]),(.cells true 2 [(.int .i64 0),(.int .i64 0),(.int .i64 2),(.int .i64 20),(.int .i64 3),(.int .i64 40)]),(.cells true 1 [(.int .i64 0),(.int .i64 10),(.int .i64 20),(.int .i64 40)]),(.cells true 1 [(.int .i64 0),(.int .i64 5),(.int .i64 10),(.int .i64 15),(.int .i64 20),(.int .i64 25),(.int .i64 30),(.int .i64 35),(.int .i64 40)])]
def E4 : Env :=
  [(.bool false),(.int .i64 22609920),(.int .i64 1572864),(.int .i64 0),(.slice (some ⟨17,0,none⟩) 9 9),(.int .i64 0),(.pointer (some ⟨18,0,none⟩)),(.int .i64 0),(.tuple #[]),(.tuple #[]),(.tuple #[(.int .i64 22609920),(.int .i64 1572864),(.int .i64 0)]),(.slice (some ⟨13,0,none⟩) 4 4),(.tuple #[(.int .i64 22609920),(.int .i64 1572864),(.int .i64 0)]),(.int .i64 22609920),(.int .i64 1572864),(.int .i64 0),(.tuple #[(.slice (some ⟨17,0,none⟩) 9 9),(.int .i64 0)]),(.agg #[(.slice (some ⟨15,0,none⟩) 3 3)]),(.agg #[(.int .i64 1),(.int .i64 1),(.int .i64 0),(.int .i64 0),(.int .i64 5),(.slice (some ⟨15,0,none⟩) 3 3)]),(.slice (some ⟨16,0,none⟩) 4 4),(.tuple #[(.slice (some ⟨17,0,none⟩) 9 9),(.int .i64 0)]),(.slice (some ⟨17,0,none⟩) 9 9),(.int .i64 0),(.tuple #[(.agg #[(.int .i64 3),(.int .i64 128)]),(.int .i64 0)]),(.tuple #[(.agg #[(.int .i64 3),(.int .i64 128)]),(.int .i64 0)]),(.agg #[(.int .i64 3),(.int .i64 128)]),(.int .i64 0),(.tuple #[]),(.tuple #[]),(.tuple #[]),(.tuple #[]),(.tuple #[]),(.tuple #[]),(.tuple #[]),(.tuple #[]),(.tuple #[]),(.tuple #[]),(.tuple #[]),(.tuple #[]),(.tuple #[]),(.tuple #[]),(.tuple #[]),(.tuple #[]),(.tuple #[]),(.tuple #[]),(.tuple #[]),(.tuple #[]),(.tuple #[]),(.tuple #[]),(.tuple #[]),(.tuple #[]),(.tuple #[]),(.tuple #[]),(.tuple #[]),(.tuple #[]),(.tuple #[]),(.tuple #[]),(.tuple #[]),(.tuple #[]),(.tuple #[]),(.tuple #[]),(.tuple #[]),(.tuple #[]),(.tuple #[]),(.tuple #[]),(.tuple #[]),(.tuple #[]),(.tuple #[])]
def H4 : AHeap :=
  [.dead,(.cells false 5 [(.int .i64 0),(.int .i64 0),.nilFunc,.nilFunc,(.int .i64 0),(.int .i64 0),(.int .i64 64),(.func (.func 232) #[] #[]),(.func (.func 233) #[] #[]),(.int .i64 8192),(.int .i64 0),(.int .i64 0),.nilFunc,.nilFunc,(.int .i64 0),(.int .i64 (-1)),(.int .i64 1572864),(.func (.func 234) #[] #[]),(.func (.func 235) #[] #[]),(.int .i64 402653184)]),.dead,.dead,.dead,.dead,.dead,.dead,.dead,.dead,.dead,.dead,.dead,(.cells true 1 [(.int .i64 0),(.int .i64 10),(.int .i64 20),(.int .i64 40)]),(.cells true 0 [(.slice (some ⟨15,0,none⟩) 3 3)]),(.cells true 2 [(.int .i64 0),(.int .i64 0),(.int .i64 2),(.int .i64 20),(.int .i64 3),(.int .i64 40)]),(.cells true 1 [(.int .i64 0),(.int .i64 10),(.int .i64 20),(.int .i64 40)]),(.cells true 1 [(.int .i64 0),(.int .i64 5),(.int .i64 10),(.int .i64 15),(.int .i64 20),(.int .i64 25),(.int .i64 30),(.int .i64 35),(.int .i64 40)]),(.cells true 0 [(.int .i64 3),(.int .i64 128)])]
def E5 : Env :=
  [(.bool false),(.int .i64 22609920),(.int .i64 1572864),(.int .i64 0),(.slice (some ⟨17,0,none⟩) 9 9),(.int .i64 0),(.pointer (some ⟨18,0,none⟩)),(.int .i64 0),(.int .i64 200),(.int .i64 0),(.tuple #[(.int .i64 22609920),(.int .i64 1572864),(.int .i64 0)]),(.slice (some ⟨13,0,none⟩) 4 4),(.tuple #[(.int .i64 22609920),(.int .i64 1572864),(.int .i64 0)]),(.int .i64 22609920),(.int .i64 1572864),(.int .i64 0),(.tuple #[(.slice (some ⟨17,0,none⟩) 9 9),(.int .i64 0)]),(.agg #[(.slice (some ⟨15,0,none⟩) 3 3)]),(.agg #[(.int .i64 1),(.int .i64 1),(.int .i64 0),(.int .i64 0),(.int .i64 5),(.slice (some ⟨15,0,none⟩) 3 3)]),(.slice (some ⟨16,0,none⟩) 4 4),(.tuple #[(.slice (some ⟨17,0,none⟩) 9 9),(.int .i64 0)]),(.slice (some ⟨17,0,none⟩) 9 9),(.int .i64 0),(.tuple #[(.agg #[(.int .i64 3),(.int .i64 128)]),(.int .i64 0)]),(.tuple #[(.agg #[(.int .i64 3),(.int .i64 128)]),(.int .i64 0)]),(.agg #[(.int .i64 3),(.int .i64 128)]),(.int .i64 0),(.tuple #[(.int .i64 200),(.int .i64 0)]),(.agg #[(.int .i64 1),(.int .i64 0),(.int .i64 2)]),(.tuple #[(.int .i64 200),(.int .i64 0)]),(.int .i64 200),(.int .i64 0),(.tuple #[]),(.tuple #[]),(.tuple #[]),(.tuple #[]),(.tuple #[]),(.tuple #[]),(.tuple #[]),(.tuple #[]),(.tuple #[]),(.tuple #[]),(.tuple #[]),(.tuple #[]),(.tuple #[]),(.tuple #[]),(.tuple #[]),(.tuple #[]),(.tuple #[]),(.tuple #[]),(.tuple #[]),(.tuple #[]),(.tuple #[]),(.tuple #[]),(.tuple #[]),(.tuple #[]),(.tuple #[]),(.tuple #[]),(.tuple #[]),(.tuple #[]),(.tuple #[]),(.tuple #[]),(.tuple #[]),(.tuple #[]),(.tuple #[]),(.tuple #[]),(.tuple #[]),(.tuple #[])]
def H5 : AHeap :=
  [.dead,(.cells false 5 [(.int .i64 0),(.int .i64 0),.nilFunc,.nilFunc,(.int .i64 0),(.int .i64 0),(.int .i64 64),(.func (.func 232) #[] #[]),(.func (.func 233) #[] #[]),(.int .i64 8192),(.int .i64 0),(.int .i64 0),.nilFunc,.nilFunc,(.int .i64 0),(.int .i64 (-1)),(.int .i64 1572864),(.func (.func 234) #[] #[]),(.func (.func 235) #[] #[]),(.int .i64 402653184)]),.dead,.dead,.dead,.dead,.dead,.dead,.dead,.dead,.dead,.dead,.dead,(.cells true 1 [(.int .i64 0),(.int .i64 10),(.int .i64 20),(.int .i64 40)]),(.cells true 0 [(.slice (some ⟨15,0,none⟩) 3 3)]),(.cells true 2 [(.int .i64 0),(.int .i64 0),(.int .i64 2),(.int .i64 20),(.int .i64 3),(.int .i64 40)]),(.cells true 1 [(.int .i64 0),(.int .i64 10),(.int .i64 20),(.int .i64 40)]),(.cells true 1 [(.int .i64 0),(.int .i64 5),(.int .i64 10),(.int .i64 15),(.int .i64 20),(.int .i64 25),(.int .i64 30),(.int .i64 35),(.int .i64 40)]),(.cells true 0 [(.int .i64 3),(.int .i64 128)])]
def E6 : Env :=
  [(.bool true),(.int .i64 22609920),(.int .i64 1572864),(.int .i64 0),(.slice (some ⟨17,0,none⟩) 9 9),(.int .i64 0),(.pointer (some ⟨18,0,none⟩)),(.int .i64 0),(.int .i64 200),(.int .i64 0),(.tuple #[(.int .i64 22609920),(.int .i64 1572864),(.int .i64 0)]),(.slice (some ⟨13,0,none⟩) 4 4),(.tuple #[(.int .i64 22609920),(.int .i64 1572864),(.int .i64 0)]),(.int .i64 22609920),(.int .i64 1572864),(.int .i64 0),(.tuple #[(.slice (some ⟨17,0,none⟩) 9 9),(.int .i64 0)]),(.agg #[(.slice (some ⟨15,0,none⟩) 3 3)]),(.agg #[(.int .i64 1),(.int .i64 1),(.int .i64 0),(.int .i64 0),(.int .i64 5),(.slice (some ⟨15,0,none⟩) 3 3)]),(.slice (some ⟨16,0,none⟩) 4 4),(.tuple #[(.slice (some ⟨17,0,none⟩) 9 9),(.int .i64 0)]),(.slice (some ⟨17,0,none⟩) 9 9),(.int .i64 0),(.tuple #[(.agg #[(.int .i64 3),(.int .i64 128)]),(.int .i64 0)]),(.tuple #[(.agg #[(.int .i64 3),(.int .i64 128)]),(.int .i64 0)]),(.agg #[(.int .i64 3),(.int .i64 128)]),(.int .i64 0),(.tuple #[(.int .i64 200),(.int .i64 0)]),(.agg #[(.int .i64 1),(.int .i64 0),(.int .i64 2)]),(.tuple #[(.int .i64 200),(.int .i64 0)]),(.int .i64 200),(.int .i64 0),(.int .i64 0),(.bool true),(.bool true),(.int .i64 22609920),(.bool true),(.bool true),(.bool true),(.int .i64 1572864),(.bool true),(.bool true),(.bool true),(.int .i64 0),(.bool true),(.bool true),(.bool true),(.slice (some ⟨17,0,none⟩) 9 9),(.slice (some ⟨19,0,none⟩) 9 9),(.bool true),(.bool true),(.bool true),(.int .i64 0),(.bool true),(.bool true),(.bool true),(.agg #[(.int .i64 3),(.int .i64 128)]),(.agg #[(.int .i64 3),(.int .i64 128)]),(.bool true),(.bool true),(.bool true),(.int .i64 0),(.bool true),(.bool true),(.bool true),(.int .i64 200),(.bool true),(.bool true)]
def H6 : AHeap :=
  [.dead,(.cells false 5 [(.int .i64 0),(.int .i64 0),.nilFunc,.nilFunc,(.int .i64 0),(.int .i64 0),(.int .i64 64),(.func (.func 232) #[] #[]),(.func (.func 233) #[] #[]),(.int .i64 8192),(.int .i64 0),(.int .i64 0),.nilFunc,.nilFunc,(.int .i64 0),(.int .i64 (-1)),(.int .i64 1572864),(.func (.func 234) #[] #[]),(.func (.func 235) #[] #[]),(.int .i64 402653184)]),.dead,.dead,.dead,.dead,.dead,.dead,.dead,.dead,.dead,.dead,.dead,(.cells true 1 [(.int .i64 0),(.int .i64 10),(.int .i64 20),(.int .i64 40)]),(.cells true 0 [(.slice (some ⟨15,0,none⟩) 3 3)]),(.cells true 2 [(.int .i64 0),(.int .i64 0),(.int .i64 2),(.int .i64 20),(.int .i64 3),(.int .i64 40)]),(.cells true 1 [(.int .i64 0),(.int .i64 10),(.int .i64 20),(.int .i64 40)]),(.cells true 1 [(.int .i64 0),(.int .i64 5),(.int .i64 10),(.int .i64 15),(.int .i64 20),(.int .i64 25),(.int .i64 30),(.int .i64 35),(.int .i64 40)]),(.cells true 0 [(.int .i64 3),(.int .i64 128)]),(.cells true 1 [(.int .i64 0),(.int .i64 5),(.int .i64 10),(.int .i64 15),(.int .i64 20),(.int .i64 25),(.int .i64 30),(.int .i64 35),(.int .i64 40)])]
theorem awake0 : run TA colO 400 (.code (nth 0 R14.code) none E0) H0 = some (.normal,E1,H1,1000000000000) := by kernel_rfl
theorem awake1 : run TA colO 400 (.code (nth 1 R14.code) none E1) H1 = some (.normal,E2,H2,1000000000000) := by kernel_rfl
theorem awake2 : run TA colO 400 (.code (nth 2 R14.code) none E2) H2 = some (.normal,E3,H3,14) := by kernel_rfl
theorem awake3 : run TA colO 400 (.code (nth 3 R14.code) none E3) H3 = some (.normal,E4,H4,18) := by kernel_rfl
theorem awake4 : run TA colO 400 (.code (nth 4 R14.code) none E4) H4 = some (.normal,E5,H5,1000000000000) := by kernel_rfl
theorem awake5 : run TA colO 400 (.code (nth 5 R14.code) none E5) H5 = some (.normal,E6,H6,1000000000000) := by kernel_rfl
end Go.Lq

namespace Go.Lq
open Go
theorem soundO : SoundO Go.Proofs.Tryz.prog colO := by
  intro fv args B v h N
  cases h
theorem awp_run {n : Nat} {c : RCode} {ar : Option Nat} {e e' : Env} {H H' : AHeap} {x : AExit} {lo : Nat} {Q : AExit → Env → AHeap → Prop}
    (h : run TA colO n (.code c ar e) H = some (x,e',H',lo)) (k : Q x e' H') : AWP Go.Proofs.Tryz.prog ar c Q e H :=
  CodeSound.awp (run_sound mo soundTA soundO n _ _ _ _ _ _ h).2 k
theorem awake0_c : ACall Go.Proofs.Tryz.prog 14 [] H0 fun v H => v = .bool true ∧ H = H0 := by
  refine ACall.drop (.bool _) ?_
  refine a14 ?_
  show AWP _ _ _ _ E0 H0
  refine awp_seq (awp_run awake0 ?_)
  refine awp_seq (awp_run awake1 ?_)
  refine awp_seq (awp_run awake2 ?_)
  refine awp_seq (awp_run awake3 ?_)
  refine awp_seq (awp_run awake4 ?_)
  refine awp_seq (awp_run awake5 ?_)
  refine awp_ret ?_
  refine fin_1 ⟨rfl,?_⟩
  exact ⟨H6.drop 13,rfl⟩
theorem own0_closed (n : Nat) : ∀ (i : Nat) (x : AObj),H0[i]? = some x → (match x with | .cells _ _ vs => ∀ v ∈ vs,Ren id n v v | .dead => True | .row _ => True | .loop _ => False | .map _ => False) := by
  intro i x hx
  have hm : x = .dead ∨ x = .cells false 5 kernelCells := by
    have := List.mem_of_getElem? hx
    simp only [H0,List.mem_cons,List.not_mem_nil,or_false] at this
    rcases this with h | h | h | h | h | h | h | h | h | h | h | h | h <;> first | exact .inl h | exact .inr h
  rcases hm with rfl | rfl
  · trivial
  · intro v hv
    simp only [kernelCells,List.mem_cons,List.not_mem_nil,or_false] at hv
    rcases hv with rfl | rfl | rfl | rfl | rfl | rfl | rfl | rfl | rfl | rfl | rfl | rfl | rfl | rfl | rfl | rfl | rfl | rfl | rfl | rfl <;> first | exact .int _ _ | exact fn_ren _ _ _ | constructor
theorem own0 : OwnHeap H0 := fun i x hx => own0_closed _ i x hx
end Go.Lq

namespace Go.Lq
open Go
def ratioB : List UInt8 := [114,97,116,105,111]
def mapB : List UInt8 := [109,97,112]
end Go.Lq

namespace Go.Lq
open Go Go.ChangeShapes Go.WideShapes Go.ChangeAt Go.RowKit
open Go.Proofs
theorem own_knob : ownKnob Tryz.prog.godebug = none := by kernel_rfl
theorem laid_out : laidOutB Tryz.prog = true := by kernel_rfl
def laidAll : List (String × DataW Unit) := [("math/bits.deBruijn32tab",YtejkpmemicpheabGreatDoor.Rows.laid_math_bits_deBruijn32tab),("math/bits.deBruijn64tab",YtejkpmemicpheabGreatDoor.Rows.laid_math_bits_deBruijn64tab),("internal/strconv.uint64pow10",YtejkpmemicpheabGreatDoor.Rows.laid_internal_strconv_uint64pow10),("unicode/utf8.acceptRanges",YtejkpmemicpheabGreatDoor.Rows.laid_unicode_utf8_acceptRanges),("strconv.ErrRange",YtejkpmemicpheabGreatDoor.Rows.laid_strconv_ErrRange),("strconv.ErrSyntax",YtejkpmemicpheabGreatDoor.Rows.laid_strconv_ErrSyntax),("lacquer/resample.words",YtejkpmemicpheabGreatDoor.Rows.laid_lacquer_resample_words),("lacquer/resample.kernels",YtejkpmemicpheabGreatDoor.Rows.laid_lacquer_resample_kernels),("unicode/utf8.first",YtejkpmemicpheabGreatDoor.Rows.laid_unicode_utf8_first)]
def plainAll : List (String × DataW Unit) := [("math/bits.deBruijn32tab",YtejkpmemicpheabGreatDoor.Rows.laid_math_bits_deBruijn32tab),("math/bits.deBruijn64tab",YtejkpmemicpheabGreatDoor.Rows.laid_math_bits_deBruijn64tab),("internal/strconv.uint64pow10",YtejkpmemicpheabGreatDoor.Rows.laid_internal_strconv_uint64pow10),("unicode/utf8.acceptRanges",YtejkpmemicpheabGreatDoor.Rows.laid_unicode_utf8_acceptRanges),("strconv.ErrRange",YtejkpmemicpheabGreatDoor.Rows.laid_strconv_ErrRange),("strconv.ErrSyntax",YtejkpmemicpheabGreatDoor.Rows.laid_strconv_ErrSyntax),("lacquer/resample.words",YtejkpmemicpheabGreatDoor.Rows.laid_lacquer_resample_words),("unicode/utf8.first",YtejkpmemicpheabGreatDoor.Rows.laid_unicode_utf8_first)]
theorem plain_is : (laidAll.filter fun x => x.2.handleName?.isNone) = plainAll := rfl
noncomputable def holdK (os : Os) : World :=
  match (World.holding Tryz.prog os ⟨#[],#[],[]⟩).heap[1]? with
  | some (Go.Obj.cells _ t fz) => { World.holding Tryz.prog os ⟨#[],#[],[]⟩ with heap := (World.holding Tryz.prog os ⟨#[],#[],[]⟩).heap.setIfInBounds 1 (Go.Obj.cells kernelCells.toArray t fz) }
  | _ => World.holding Tryz.prog os ⟨#[],#[],[]⟩
noncomputable def doorW (os : Os) : World := (holdK os).layVars Tryz.prog plainAll
theorem doorW_os (os : Os) : (doorW os).os = os := by
  unfold doorW
  rw [World.layVars_os]
  unfold holdK
  split <;> rfl
theorem door_plain (os : Os) (args : Array Value) : laidMet Tryz.prog plainAll ((doorW os).forCall (fun _ _ => 0) ⟨#[],args,[]⟩).memory := by
  have e1 : (plainAll.filter fun x => (plainAll.map (·.1)).contains x.1) = plainAll := List.filter_eq_self.2 fun x hx => List.contains_iff_mem.2 (List.mem_map.2 ⟨x,hx,rfl⟩)
  have e2 : (plainAll.filter fun x => !(plainAll.map (·.1)).contains x.1) = [] := List.filter_eq_nil_iff.2 fun x hx => by rw [List.contains_iff_mem.2 (List.mem_map.2 ⟨x,hx,rfl⟩)]; simp
  have h : laidMet Tryz.prog plainAll (doorW os) := laidMet_layVars (w0 := holdK os) (plainAll.map (·.1)) [] (by rw [e1]; rfl) (by rw [e1]; kernel_rfl) (by rw [e1]; kernel_rfl) (by rw [e2]; exact LaidIn.none)
  exact h.of_heap (by simp [World.memory,World.forCall,Input.heap])
theorem door_met (os : Os) (args : Array Value) : laidMetH Tryz.prog laidAll ((doorW os).forCall (fun _ _ => 0) ⟨#[],args,[]⟩).memory :=
  laidMetH_of_parts3 (fuel := 8) (by rw [plain_is]; exact door_plain os args) (by kernel_rfl) (by kernel_rfl)
theorem door_shaped (os : Os) (args : Array Value) : ((doorW os).forCall (fun _ _ => 0) ⟨#[],args,[]⟩).Shaped Tryz.prog := World.shaped_of_ZipB (by kernel_rfl) (by kernel_rfl)
def fnTab : List (List UInt8 × FuncId) := [("lacquer/resample.linear".toUTF8.data.toList,232),("lacquer/resample.kernels$1".toUTF8.data.toList,233),
  ("lacquer/resample.cubic".toUTF8.data.toList,234),("lacquer/resample.kernels$2".toUTF8.data.toList,235)]
theorem fnTab_ok : tabOk Tryz.prog fnTab = true := by kernel_rfl
theorem looks0 : true = Tryz.prog.looks [] := by kernel_rfl
theorem may_enter : Tryz.prog.mayEnter = true := by kernel_rfl
theorem stops_heard : Tryz.prog.stopsHeard = true := by kernel_rfl
theorem maps_rowed : mapsRowed Tryz.prog = true := by kernel_rfl
theorem glob_block {W : World} (hsh : W.ShapedOpen Tryz.prog) {g : Nat} (hg : g < 13) (h0 : (((begin Tryz.prog (fun _ _ => 0) default).world.heap[g]?).bind Obj.row?).isSome = true) : ∃ cs t,W.heap[g]? = some (.cells cs t) := by
  obtain ⟨⟨zero,t⟩,e⟩ := Option.isSome_iff_exists.1 h0
  obtain ⟨cs,h,_⟩ := hsh.1 g zero t (by rw [gSize]; exact hg) e
  exact ⟨cs,t,h⟩
theorem iface_cell {P : Program} {w : World} {held : Bool} {fuel : Nat} {t : TypeId} {ms} {cs : List Value} {n : String} {d : DataW Unit} {p : List MemPlace} (ht : P.underlying t = some (.interface ms))
    (h : DataW.trod (fun _ => ()) P w 0 (fun _ => true) held fuel t cs = some (.iface n d,p)) : ∃ u v,cs = [.iface u v] := by
  cases fuel with
  | zero => simp [DataW.trod] at h
  | succ fuel =>
    unfold DataW.trod at h
    rw [ht] at h
    split at h <;> first | (cases h; done) | (rename_i e; cases e; exact ⟨_,_,rfl⟩) | (rename_i e _; cases e; done) | (rename_i e; cases e; done) | skip
def flS {X : Type} : DataW X → List Value
  | .lit (.string l) => [.string (bs l)]
  | _ => []
theorem strRow_of {X : Type} {enc : TypeId × Value → X} {P : Program} {w : World} {base : Nat} {spare : Nat → Bool} {held : Bool} {fuel n : Nat} {t e : TypeId} {cs : List Value} {x : DataW X × List MemPlace} (ht : P.underlying t = some (.array n e)) (he : P.underlying e = some .string)
    (hs : n * P.cellsOf e = P.cellsOf t) (h : DataW.trod enc P w base spare held fuel t cs = some x) : ∃ l,x.1 = .agg l ∧ l.flatMap flS = cs := by
  obtain ⟨xs,m,_,rfl,hcl,hxl,hf⟩ := DataW.trod_array ht h
  have := flat_rowG (fl := flS) (sz := P.cellsOf e) (cs := cs) xs 0 (by rw [hcl,← hs,hxl]; simp) (fun i x hx => by
    have hi : i < n := by rw [← hxl]; exact (List.getElem?_eq_some_iff.1 hx).1
    have h3 := hf i hi
    rw [hx] at h3
    rw [Nat.zero_add]
    generalize (cs.drop (i * P.cellsOf e)).take (P.cellsOf e) = ds at h3
    obtain ⟨s,rfl,rfl,_⟩ := DataW.trod_string he h3
    rfl)
  exact ⟨_,rfl,by simpa using this⟩
theorem gRange : Tryz.prog.globalNamed "strconv.ErrRange" = some 4 := by kernel_rfl
theorem gSyntax : Tryz.prog.globalNamed "strconv.ErrSyntax" = some 3 := by kernel_rfl
theorem gWords : Tryz.prog.globalNamed "lacquer/resample.words" = some 0 := by kernel_rfl
theorem gKernels : Tryz.prog.globalNamed "lacquer/resample.kernels" = some 1 := by kernel_rfl
theorem tKernels : (Tryz.prog.globals[1]?).map (·.type) = some 169 := by kernel_rfl
theorem tWords : (Tryz.prog.globals[0]?).map (·.type) = some 116 := by kernel_rfl
theorem tTab : (Tryz.prog.globals[6]?).map (·.type) = some 245 := by kernel_rfl
theorem tErr3 : (Tryz.prog.globals[3]?).map (·.type) = some 94 := by kernel_rfl
theorem tErr4 : (Tryz.prog.globals[4]?).map (·.type) = some 94 := by kernel_rfl
def S0 (m : Int) (t u : TypeId) : AHeap := [.cells false 1 [.string (bs ratioB),.string (bs mapB)],.cells false 5 kernelCells,.cells false 1 [],.cells false 1 [.iface t junk],.cells false 1 [.iface u junk],.cells false 1 [.int .i64 m],.row tabRow,.cells false 1 [],.cells false 1 [],.cells false 1 [],.cells false 1 [],.cells false 1 [],.cells false 1 []]
theorem strH0 {m : Int} {t u : TypeId} {H : AHeap} (hx : Ext (S0 m t u) H) : StrH H :=
  ⟨⟨m,ext_at hx rfl⟩,ext_at hx rfl,⟨t,ext_at hx rfl⟩,⟨u,ext_at hx rfl⟩⟩
theorem strH {m : Int} {t u : TypeId} {H : AHeap} (hx : Ext (S0 m t u) H) : ∃ m t u,Ext (S0 m t u) H := ⟨m,t,u,hx⟩
theorem var_cells {P : Program} {W : World} {n : String} {g : Nat} {cs : Array Value} (hg : P.globalNamed n = some g) (h : W.var? P n = some cs) : ∃ t fz,W.heap[g]? = some (.cells cs t fz) := by
  unfold World.var? at h
  rw [hg] at h
  simp only [Option.bind_some] at h
  split at h
  · cases h; exact ⟨_,_,by assumption⟩
  · cases h
theorem masks {m : Int} {t u : TypeId} : Masks H0 (S0 m t u) := ⟨rfl,fun i => by
  match i with
  | 0 => exact .inr rfl
  | 1 => exact .inl rfl
  | 2 => exact .inr rfl
  | 3 => exact .inr rfl
  | 4 => exact .inr rfl
  | 5 => exact .inr rfl
  | 6 => exact .inr rfl
  | 7 => exact .inr rfl
  | 8 => exact .inr rfl
  | 9 => exact .inr rfl
  | 10 => exact .inr rfl
  | 11 => exact .inr rfl
  | 12 => exact .inr rfl
  | i + 13 => exact .inl rfl⟩
theorem awakeS_c {m : Int} {t u : TypeId} {H : AHeap} (h : Ext (S0 m t u) H) : ACall Go.Proofs.Tryz.prog 14 [] H fun v H' => v = .bool true ∧ H' = H := by
  obtain ⟨M,rfl⟩ := h
  have h1 := ACall.frame (by rw [gSize]; exact Nat.le_refl _) own0 (fun x hx => by cases hx) (.bool _) awake0_c (List.replicate M.length .dead)
  refine h1.mask ⟨by simp [H0,S0],fun i => ?_⟩ (fun i x hx => ?_) (.bool _)
  · by_cases hi : i < 13
    · have e1 : (H0 ++ List.replicate M.length AObj.dead)[i]? = H0[i]? := List.getElem?_append_left hi
      have e2 : (S0 m t u ++ M)[i]? = (S0 m t u)[i]? := List.getElem?_append_left hi
      rw [e1,e2]; exact masks.2 i
    · have e1 : (H0 ++ List.replicate M.length AObj.dead)[i]? = (List.replicate M.length AObj.dead)[i - 13]? := List.getElem?_append_right (by show 13 ≤ i; omega)
      have e2 : (S0 m t u ++ M)[i]? = M[i - 13]? := List.getElem?_append_right (by show 13 ≤ i; omega)
      rw [e1,e2]
      by_cases hl : i - 13 < M.length
      · right; simp [hl]
      · left; simp [hl]
  · by_cases hi : i < 13
    · have e1 : (H0 ++ List.replicate M.length AObj.dead)[i]? = H0[i]? := List.getElem?_append_left hi
      rw [e1] at hx
      exact own0_closed _ i x hx
    · have e1 : (H0 ++ List.replicate M.length AObj.dead)[i]? = (List.replicate M.length AObj.dead)[i - 13]? := List.getElem?_append_right (by show 13 ≤ i; omega)
      rw [e1] at hx
      have := List.mem_of_getElem? hx
      rw [(List.mem_replicate.1 this).2]
      trivial
theorem of_laid {W : World} (h : laidMetH Tryz.prog laidAll W) (hsh : W.ShapedOpen Tryz.prog) : ∃ m t u,Laid W [⟨0,0,64⟩,⟨1,0,64⟩,⟨2,0,64⟩,⟨3,0,64⟩,⟨4,0,64⟩,⟨5,0,64⟩,⟨6,0,64⟩,⟨7,0,64⟩,⟨8,0,64⟩,⟨9,0,64⟩,⟨10,0,64⟩,⟨11,0,64⟩,⟨12,0,64⟩] (S0 m t u) := by
  obtain ⟨g1,t1,c1,f1,p1,a1,b1,v1,d1⟩ := h.funcs (n := "lacquer/resample.kernels") (by unfold laidAll YtejkpmemicpheabGreatDoor.Rows.laid_lacquer_resample_kernels; exact List.mem_cons_of_mem _ (List.mem_cons_of_mem _ (List.mem_cons_of_mem _ (List.mem_cons_of_mem _ (List.mem_cons_of_mem _ (List.mem_cons_of_mem _ (List.mem_cons_of_mem _ (List.mem_cons_self ..))))))))
  have h := (laidMetH_iff.1 h).1
  rw [plain_is] at h
  obtain ⟨ps,hv,_⟩ := h
  obtain ⟨_,_,_,_,_,_,_,_,_,_,hv,_⟩ := hv
  obtain ⟨_,_,_,_,_,_,_,_,_,_,hv,_⟩ := hv
  obtain ⟨g6,t6,c6,f6,p6,_,a6,b6,v6,d6,hv,_⟩ := hv
  obtain ⟨_,_,_,_,_,_,_,_,_,_,hv,_⟩ := hv
  obtain ⟨g4,t4,c4,f4,p4,_,a4,b4,v4,d4,hv,_⟩ := hv
  obtain ⟨g3,t3,c3,f3,p3,_,a3,b3,v3,d3,hv,_⟩ := hv
  obtain ⟨g0,t0,c0,f0,p0,_,a0,b0,v0,d0,hv,_⟩ := hv
  obtain rfl := Option.some.inj (gWords.symm.trans a0)
  obtain rfl := Option.some.inj (tWords.symm.trans b0)
  obtain rfl := Option.some.inj (gKernels.symm.trans a1)
  obtain rfl := Option.some.inj (tKernels.symm.trans b1)
  obtain rfl := Option.some.inj (gTab.symm.trans a6)
  obtain rfl := Option.some.inj (gRange.symm.trans a4)
  obtain rfl := Option.some.inj (gSyntax.symm.trans a3)
  obtain rfl := Option.some.inj (tTab.symm.trans b6)
  obtain rfl := Option.some.inj (tErr4.symm.trans b4)
  obtain rfl := Option.some.inj (tErr3.symm.trans b3)
  obtain ⟨m,hm⟩ := cell_of_shapedOpen_int (P := Tryz.prog) (g := 5) (zero := #[.int .i64 0]) (t := 3) hsh (of_decide_eq_true (by kernel_rfl)) (by kernel_rfl) rfl (by kernel_rfl) (by kernel_rfl) Tryz.underlying3
  have e6 : c6.toList = Lib.pow10Tab.map fun z => Value.int .u64 z := Lib.cells_of_tab (t := 245) (e := 221) (n := 20) (k := .u64) (zs := Lib.pow10Tab) (by kernel_rfl) (by kernel_rfl) (by kernel_rfl) (by kernel_rfl) d6
  have e6 : c6 = tabRow := by
    unfold tabRow
    rw [← e6]
  subst e6
  obtain ⟨w0,e0,hw0⟩ := strRow_of (n := 2) (e := 9) (by kernel_rfl) (by kernel_rfl) (by kernel_rfl) d0
  obtain rfl := DataW.agg.inj e0
  have hk1 := flatF_of fnTab_ok 5 _ _ _ _ d1 (by kernel_rfl) (by kernel_rfl)
  obtain ⟨u,x4,e4⟩ := iface_cell Tryz.underlying94 d4
  obtain ⟨t,x3,e3⟩ := iface_cell Tryz.underlying94 d3
  obtain ⟨s0,z0,h0⟩ := var_cells gWords v0
  obtain ⟨s1,z1,h1⟩ := var_cells gKernels v1
  obtain ⟨k2,s2,h2⟩ := glob_block (g := 2) hsh (by decide) (by kernel_rfl)
  obtain ⟨s3,z3,h3⟩ := var_cells gSyntax v3
  obtain ⟨s4,z4,h4⟩ := var_cells gRange v4
  obtain ⟨k5,s5,h5⟩ := glob_block (g := 5) hsh (by decide) (by kernel_rfl)
  obtain ⟨s6,z6,h6⟩ := var_cells gTab v6
  obtain ⟨k7,s7,h7⟩ := glob_block (g := 7) hsh (by decide) (by kernel_rfl)
  obtain ⟨k8,s8,h8⟩ := glob_block (g := 8) hsh (by decide) (by kernel_rfl)
  obtain ⟨k9,s9,h9⟩ := glob_block (g := 9) hsh (by decide) (by kernel_rfl)
  obtain ⟨k10,s10,h10⟩ := glob_block (g := 10) hsh (by decide) (by kernel_rfl)
  obtain ⟨k11,s11,h11⟩ := glob_block (g := 11) hsh (by decide) (by kernel_rfl)
  obtain ⟨k12,s12,h12⟩ := glob_block (g := 12) hsh (by decide) (by kernel_rfl)
  refine ⟨m,t,u,?_⟩
  have one : ∀ {cs : Array Value} {t : TypeId} {x : Value},cs.toList = [.iface t x] → ∀ (B : List ALoc) (k : Nat) (v : Value),[Value.iface t junk][k]? = some v → ∃ cv,cs[0 + k]? = some cv ∧ VR (betaOf B) v cv := fun {cs t x} e B k v hk => by
    cases k with
    | zero =>
      simp at hk
      subst hk
      exact ⟨.iface t x,by rw [← Array.getElem?_toList,e]; rfl,.iface _ (.junk _)⟩
    | succ k => simp at hk
  have L0 := (Laid.none W).push (p := ⟨0,0,64⟩) (esz := 1) (vs := [.string (bs ratioB),.string (bs mapB)]) h0 fun k v hk => ⟨v,by
    have e : c0.toList = [.string (bs ratioB),.string (bs mapB)] := hw0.symm.trans rfl
    rw [Nat.zero_add,← hk,← e]; simp,by
    have hm := List.mem_of_getElem? hk
    simp only [List.mem_cons,List.not_mem_nil,or_false] at hm
    rcases hm with rfl | rfl <;> exact .string _⟩
  have L1 := L0.push (p := ⟨1,0,64⟩) (esz := 5) (vs := kernelCells) h1 fun k v hk => ⟨v,by
    have e : c1.toList = kernelCells := hk1.symm.trans (by kernel_rfl)
    rw [Nat.zero_add,← hk,← e]; simp,by
    have hm := List.mem_of_getElem? hk
    simp only [kernelCells,List.mem_cons,List.not_mem_nil,or_false] at hm
    rcases hm with rfl | rfl | rfl | rfl | rfl | rfl | rfl | rfl | rfl | rfl | rfl | rfl | rfl | rfl | rfl | rfl | rfl | rfl | rfl | rfl <;> first | exact .int _ _ | exact fn_vr _ _ | constructor⟩
  have L2 := L1.blank h2 1 64
  have L3 := L2.push (p := ⟨3,0,64⟩) (esz := 1) (vs := [.iface t junk]) h3 (one e3 _)
  have L4 := L3.push (p := ⟨4,0,64⟩) (esz := 1) (vs := [.iface u junk]) h4 (one e4 _)
  have L5 := L4.push (p := ⟨5,0,64⟩) (esz := 1) (vs := [.int .i64 m]) h5 fun k v hk => by
    cases k with
    | zero =>
      simp at hk
      subst hk
      refine ⟨_,?_,.int _ _⟩
      unfold World.cell? at hm
      rw [h5] at hm
      simpa using hm
    | succ k => simp at hk
  have L6 := L5.row (p := ⟨6,0,64⟩) h6
  exact (((((L6.blank h7 1 64).blank h8 1 64).blank h9 1 64).blank h10 1 64).blank h11 1 64).blank h12 1 64
theorem globs {m : Int} {t u : TypeId} : Tryz.prog.globals.size ≤ (S0 m t u).length := by rw [gSize]; exact Nat.le_refl _
theorem glob_at : ∀ g,g < Tryz.prog.globals.size → ∃ r,([⟨0,0,64⟩,⟨1,0,64⟩,⟨2,0,64⟩,⟨3,0,64⟩,⟨4,0,64⟩,⟨5,0,64⟩,⟨6,0,64⟩,⟨7,0,64⟩,⟨8,0,64⟩,⟨9,0,64⟩,⟨10,0,64⟩,⟨11,0,64⟩,⟨12,0,64⟩] : List ALoc)[g]? = some ⟨g,0,r + 64⟩ := fun g hg => by
  rw [gSize] at hg
  match g,hg with
  | 0,_ => exact ⟨0,rfl⟩
  | 1,_ => exact ⟨0,rfl⟩
  | 2,_ => exact ⟨0,rfl⟩
  | 3,_ => exact ⟨0,rfl⟩
  | 4,_ => exact ⟨0,rfl⟩
  | 5,_ => exact ⟨0,rfl⟩
  | 6,_ => exact ⟨0,rfl⟩
  | 7,_ => exact ⟨0,rfl⟩
  | 8,_ => exact ⟨0,rfl⟩
  | 9,_ => exact ⟨0,rfl⟩
  | 10,_ => exact ⟨0,rfl⟩
  | 11,_ => exact ⟨0,rfl⟩
  | 12,_ => exact ⟨0,rfl⟩
end Go.Lq

namespace Go.Lq
open Go Go.ChangeShapes Go.WideShapes Go.ChangeAt Go.RowKit
open Go.Proofs
theorem lifts_final : Tryz.prog.liftsFinal = YtejkpmemicpheabGreatDoor.Rows.resampleStringsRow.lifted := by kernel_rfl
theorem make_is : Tryz.prog.make = some YtejkpmemicpheabGreatDoor.Rows.resampleStringsRow.make := by kernel_rfl
theorem main_is : Tryz.prog.mainIs = some (true,"b6ed69e075042afda5914e78007f13ba12b7d006960e49b0d1e2d8922cba905d".toList) := by kernel_rfl
end Go.Lq

namespace Go.Lq
open Go
open Go.Proofs
def numP (d : Int) (l : List UInt8) : Option Int := match Lib.atoiAll l with | .ok n => if 0 ≤ n ∧ Lib.itoa n = l ∧ (l.length : Int) ≤ d then some n else none | _ => none
def NumRes (d : Int) (l : List UInt8) (v : Value) : Prop := ∃ n,v = .tuple #[.int .i64 n,.bool (numP d l).isSome] ∧ ∀ m,numP d l = some m → n = m
section
variable {H : AHeap}
theorem number_c (hs : StrH H) {l : List UInt8} {d : Int} (hl : l.length ≤ 281474976710656) : ACall Go.Proofs.Tryz.prog 119 [.string (bs l),.int .i64 d] H fun v H' => NumRes d l v ∧ H' = H := by
  (refine a119 ?_; simp only [n119,List.replicate,yq,yr,yt,yu]; first | refine q1 ?_ | refine q2 ?_ | refine q6 ?_ | refine q7 ?_ | refine qh rfl ?_ | skip)
  (refine yg ?_)
  refine aops_call ((atoi_c hs hl).mono fun v H1 ⟨hr,e⟩ => ?_)
  subst e
  rcases hr with ⟨n,hn,rfl⟩ | ⟨hn,n,t,rfl⟩
  · obtain ⟨b0,b1⟩ := Lib.atoiAll_bounds hn
    by_cases h0 : 0 ≤ n
    · (repeat(first|refine yw ?_|((first|apply yd|apply ye);simp (disch:=first|exact zz|fail) only[go_sem,dec_t h0];with_reducible rfl)))
      refine aops_call_to (itoa_c hs b0 b1) ?_
      by_cases h1 : Lib.itoa n = l
      · (repeat(first|refine yw ?_|((first|apply yd|apply ye);simp (disch:=first|exact zz|fail) only[go_sem,dec_t h1];with_reducible rfl)))
        refine fin_2 ⟨⟨n,?_,?_⟩,rfl⟩
        · unfold numP
          rw [hn]
          by_cases h2 : (l.length : Int) ≤ d <;> simp [h0,h1,h2]
        · intro m hm
          unfold numP at hm
          rw [hn] at hm
          by_cases h2 : (l.length : Int) ≤ d
          · simpa [h0,h1,h2] using hm
          · simp [h0,h1,h2] at hm
      · (repeat(first|refine yw ?_|((first|apply yd|apply ye);simp (disch:=first|exact zz|fail) only[go_sem,dec_f h1];with_reducible rfl)))
        refine fin_2 ⟨⟨n,?_,?_⟩,rfl⟩
        · unfold numP; rw [hn]; simp [h1]
        · intro m hm
          unfold numP at hm
          rw [hn] at hm
          simp [h1] at hm
    · (repeat(first|refine yw ?_|((first|apply yd|apply ye);simp (disch:=first|exact zz|fail) only[go_sem,dec_f h0];with_reducible rfl)))
      refine fin_2 ⟨⟨n,?_,?_⟩,rfl⟩
      · unfold numP; rw [hn]; simp [h0]
      · intro m hm
        unfold numP at hm
        rw [hn] at hm
        simp [h0] at hm
  · have e : numP d l = none := by
      unfold numP
      split
      · rename_i m hm; exact absurd hm (hn m)
      · rfl
    (refine yg ?_)
    refine fin_2 ⟨⟨n,?_,?_⟩,rfl⟩
    · rw [e]; rfl
    · intro m hm; rw [e] at hm; cases hm
end
end Go.Lq

namespace Go.Lq
open Go
open Go.Proofs
theorem a_sub8 {H : AHeap} {a b : Int} (h0 : 0 ≤ a - b) (h1 : a - b < 256) : arithR .sub (.int .u8 a) (.int .u8 b) H = some (.int .u8 (a - b),H) := by
  have : IntKind.u8.wrap (a - b) = a - b := by
    unfold IntKind.wrap IntKind.bits
    have : (2 : Int) ^ 8 = 256 := by decide
    simp [IntKind.signed]
    omega
  simp [arithR,arithA,this]
theorem at8_bounds (l : List UInt8) (n : Int) : 0 ≤ at8 l n ∧ at8 l n < 256 := by
  unfold at8
  have := (l.getD n.toNat 0).toNat_lt
  omega
attribute [go_sem] a_sub8
def digV (acc : Int) : List UInt8 → Option Int
  | [] => some acc
  | b :: r => if ((b.toNat : Nat) : Int) < 48 ∨ 57 < ((b.toNat : Nat) : Int) then none else digV (10 * acc + (((b.toNat : Nat) : Int) - 48)) r
def signAt (l : List UInt8) : Nat := if 0 < l.length ∧ at8 l 0 = 45 then 1 else 0
def numB (d : Int) (l : List UInt8) : Option Int :=
  if (l.length : Int) = (signAt l : Nat) ∨ d < (l.length : Int) - (signAt l : Nat) ∨ (at8 l (signAt l : Nat) = 48 ∧ 1 < (l.length : Int)) then none
  else (digV 0 (l.drop (signAt l))).map fun n => if ((signAt l : Nat) : Int) = 1 then -n else n
theorem digV_step {l : List UInt8} {i : Nat} (h : i < l.length) (acc : Int) : digV acc (l.drop i) = if at8 l i < 48 ∨ 57 < at8 l i then none else digV (10 * acc + (at8 l i - 48)) (l.drop (i + 1)) := by
  rw [drop_getD (d := (0 : UInt8)) h]
  rfl
section
variable {H : AHeap}
theorem refNumber_c {l : List UInt8} {d : Int} (hd : d ≤ 18) (hl : l.length ≤ 1000000) : ACall Go.Proofs.Tryz.prog 45 [.string (bs l),.int .i64 d] H fun v H' =>
    v = .tuple #[.int .i64 ((numB d l).getD 0),.bool (numB d l).isSome] ∧ H' = H := by
  (refine a45 ?_; simp only [n45,List.replicate,yq,yr,yt,yu]; first | refine q1 ?_ | refine q2 ?_ | refine q6 ?_ | refine q7 ?_ | refine qh rfl ?_ | skip)
  (refine yx ?_; (first | apply aops_all | apply adraw_all); simp (disch:=first|exact zz|fail) only[go_sem]; with_reducible rfl)
  (refine yx ?_; (first | apply aops_all | apply adraw_all); simp (disch:=first|exact zz|fail) only[go_sem]; with_reducible rfl)
  refine awp_seq ?_
  refine awp_mid [true,true,false,false,true,true,true,false,false,false,false,false,false,false,false,false,false,false,false,false,false,false,false,false,false,false,false,false,false,false,false,false,false,false,false,false,false,false,false,false,false,false,false,false,false,false,false,false,false,false,false,false,false,false,false,false,false,false,false,false,false,false,false,false,false,false,false,false,false,false] (fun e J => J = H ∧ e = [.string (bs l),.int .i64 d,junk,junk,.int .i64 0,.bool false,.int .i64 ((signAt l : Nat) : Int),junk,junk,junk,junk,junk,junk,junk,junk,junk,junk,junk,junk,junk,junk,junk,junk,junk,junk,junk,junk,junk,junk,junk,junk,junk,junk,junk,junk,junk,junk,junk,junk,junk,junk,junk,junk,junk,junk,junk,junk,junk,junk,junk,junk,junk,junk,junk,junk,junk,junk,junk,junk,junk,junk,junk,junk,junk,junk,junk,junk,junk,junk,junk]) ?_ ?_
  · by_cases hp : 0 < l.length
    · have hp' : (0 : Int) < (l.length : Int) := by omega
      by_cases h45 : at8 l 0 = 45
      · have hs : ((signAt l : Nat) : Int) = 1 := by unfold signAt; rw [if_pos ⟨hp,h45⟩]; rfl
        (repeat(first|refine yw ?_|((first|apply yd|apply ye);simp (disch:=first|exact zz|fail) only[go_sem,dec_t hp',dec_t h45];with_reducible rfl)))
        refine cond_t rfl ?_
        (refine yg ?_)
        exact ⟨rfl,rfl,by simp [forget,hs]⟩
      · have hs : ((signAt l : Nat) : Int) = 0 := by unfold signAt; rw [if_neg (fun h => h45 h.2)]; rfl
        (repeat(first|refine yw ?_|((first|apply yd|apply ye);simp (disch:=first|exact zz|fail) only[go_sem,dec_t hp',dec_f h45];with_reducible rfl)))
        refine cond_f rfl ?_
        (refine yg ?_)
        exact ⟨rfl,rfl,by simp [forget,hs]⟩
    · have hs : ((signAt l : Nat) : Int) = 0 := by unfold signAt; rw [if_neg (fun h => hp h.1)]; rfl
      have hp' : ¬ (0 : Int) < (l.length : Int) := by omega
      (repeat(first|refine yw ?_|((first|apply yd|apply ye);simp (disch:=first|exact zz|fail) only[go_sem,dec_f hp'];with_reducible rfl)))
      refine cond_f rfl ?_
      (refine yg ?_)
      exact ⟨rfl,rfl,by simp [forget,hs]⟩
  rintro e J ⟨rfl,rfl⟩
  obtain ⟨a,ha⟩ : ∃ a,a = signAt l := ⟨_,rfl⟩
  have ha1 : a ≤ 1 ∧ a ≤ l.length := by rw [ha]; unfold signAt; split <;> omega
  rw [← ha]
  have hN : numB d l = if (l.length : Int) = (a : Nat) ∨ d < (l.length : Int) - (a : Nat) ∨ (at8 l (a : Nat) = 48 ∧ 1 < (l.length : Int)) then none
      else (digV 0 (l.drop a)).map fun n => if ((a : Nat) : Int) = 1 then -n else n := by rw [ha]; rfl
  by_cases h1 : (l.length : Int) = (a : Nat)
  · rw [if_pos (.inl h1)] at hN
    rw [hN]
    (repeat(first|refine yw ?_|((first|apply yd|apply ye);simp (disch:=first|exact zz|fail) only[go_sem,dec_t h1];with_reducible rfl)))
    refine cond_t rfl ?_
    (refine yg ?_)
    exact fin_2 ⟨rfl,rfl⟩
  by_cases h2 : d < (l.length : Int) - (a : Nat)
  · rw [if_pos (.inr (.inl h2))] at hN
    rw [hN]
    (repeat(first|refine yw ?_|((first|apply yd|apply ye);simp (disch:=first|exact zz|fail) only[go_sem,dec_f h1,dec_t h2];with_reducible rfl)))
    refine cond_t rfl ?_
    (refine yg ?_)
    exact fin_2 ⟨rfl,rfl⟩
  by_cases h3 : at8 l (a : Nat) = 48 ∧ 1 < (l.length : Int)
  · rw [if_pos (.inr (.inr h3))] at hN
    rw [hN]
    (repeat(first|refine yw ?_|((first|apply yd|apply ye);simp (disch:=first|exact zz|fail) only[go_sem,dec_f h1,dec_f h2,dec_t h3.1,dec_t h3.2];with_reducible rfl)))
    refine cond_t rfl ?_
    (refine yg ?_)
    exact fin_2 ⟨rfl,rfl⟩
  rw [if_neg (fun h => h.elim h1 fun h => h.elim h2 h3)] at hN
  refine awp_seq ?_
  refine awp_mid [true,true,false,false,true,true,true,false,false,false,false,false,false,false,false,false,false,false,false,false,false,false,false,false,false,false,false,false,false,false,false,false,false,false,false,false,false,false,false,false,false,false,false,false,false,false,false,false,false,false,false,false,false,false,false,false,false,false,false,false,false,false,false,false,false,false,false,false,false,false] (fun e K => K = J ∧ e = [.string (bs l),.int .i64 d,junk,junk,.int .i64 0,.bool false,.int .i64 (a : Nat),junk,junk,junk,junk,junk,junk,junk,junk,junk,junk,junk,junk,junk,junk,junk,junk,junk,junk,junk,junk,junk,junk,junk,junk,junk,junk,junk,junk,junk,junk,junk,junk,junk,junk,junk,junk,junk,junk,junk,junk,junk,junk,junk,junk,junk,junk,junk,junk,junk,junk,junk,junk,junk,junk,junk,junk,junk,junk,junk,junk,junk,junk,junk]) ?_ ?_
  · by_cases h4 : at8 l (a : Nat) = 48
    · have h5 : ¬ 1 < (l.length : Int) := fun h => h3 ⟨h4,h⟩
      (repeat(first|refine yw ?_|((first|apply yd|apply ye);simp (disch:=first|exact zz|fail) only[go_sem,dec_f h1,dec_f h2,dec_t h4,dec_f h5];with_reducible rfl)))
      refine cond_f rfl ?_
      (refine yg ?_)
      exact ⟨rfl,rfl,by simp [forget]⟩
    · (repeat(first|refine yw ?_|((first|apply yd|apply ye);simp (disch:=first|exact zz|fail) only[go_sem,dec_f h1,dec_f h2,dec_f h4];with_reducible rfl)))
      refine cond_f rfl ?_
      (refine yg ?_)
      exact ⟨rfl,rfl,by simp [forget]⟩
  rintro e K ⟨rfl,rfl⟩
  (refine yg ?_)
  refine awp_loop_n [true,false,false,false,true,true,true,true,true,false,false,false,false,false,false,false,false,false,false,false,false,false,false,false,false,false,false,false,false,false,false,false,false,false,false,false,false,false,false,false,false,false,false,false,false,false,false,false,false,false,false,false,false,false,false,false,false,false,false,false,false,false,false,false,false,false,false,false,false,false] (l.length - a) (fun j e K' => ∃ n,K' = K ∧ e = [.string (bs l),junk,junk,junk,.int .i64 0,.bool false,.int .i64 (a : Nat),.int .i64 n,.int .i64 ((a + j : Nat) : Int),junk,junk,junk,junk,junk,junk,junk,junk,junk,junk,junk,junk,junk,junk,junk,junk,junk,junk,junk,junk,junk,junk,junk,junk,junk,junk,junk,junk,junk,junk,junk,junk,junk,junk,junk,junk,junk,junk,junk,junk,junk,junk,junk,junk,junk,junk,junk,junk,junk,junk,junk,junk,junk,junk,junk,junk,junk,junk,junk,junk,junk] ∧ 0 ≤ n ∧ n < 10 ^ j ∧ digV 0 (l.drop a) = digV n (l.drop (a + j))) ?_ ?_
  · exact ⟨0,rfl,by simp [forget],by omega,by decide,rfl⟩
  rintro j e K' hj ⟨n,rfl,rfl,n0,n1,hn⟩
  have hp18 : (10 : Int) ^ j ≤ 10 ^ 18 := by
    have : (10 : Nat) ^ j ≤ 10 ^ 18 := Nat.pow_le_pow_right (by decide) (by omega)
    exact_mod_cast this
  have h18 : (10 : Int) ^ 18 = 1000000000000000000 := by decide
  rw [h18] at hp18
  have hps : (10 : Int) ^ (j + 1) = 10 ^ j * 10 := Int.pow_succ ..
  (refine yg ?_)
  refine cond_p rfl (fun hlt => ?_) (fun hge => ?_)
  rotate_left 1
  · have hend : a + j = l.length := by omega
    rw [hend,List.drop_length] at hn
    have hn : digV 0 (l.drop a) = some n := hn
    rw [hn] at hN
    by_cases h6 : ((a : Nat) : Int) = 1
    · have hN : numB d l = some (-n) := by rw [hN]; simp [h6]
      rw [hN]
      (repeat(first|refine yw ?_|((first|apply yd|apply ye);simp (disch:=first|exact zz|fail) only[go_sem,dec_t h6];with_reducible rfl)))
      refine cond_t rfl ?_
      (refine yg ?_)
      refine fin_2 ⟨?_,rfl⟩
      simp
    · have hN : numB d l = some n := by rw [hN]; simp [h6]
      rw [hN]
      (repeat(first|refine yw ?_|((first|apply yd|apply ye);simp (disch:=first|exact zz|fail) only[go_sem,dec_f h6];with_reducible rfl)))
      refine cond_f rfl ?_
      (refine yg ?_)
      exact fin_2 ⟨rfl,rfl⟩
  have hi : a + j < l.length := by omega
  have hp17 : (10 : Int) ^ (j + 1) ≤ 1000000000000000000 := by
    have : (10 : Nat) ^ (j + 1) ≤ 10 ^ 18 := Nat.pow_le_pow_right (by decide) (by omega)
    rw [← h18]
    exact_mod_cast this
  have n2 : 10 * n < 1000000000000000000 := by omega
  rw [digV_step hi] at hn
  obtain ⟨b0,b1⟩ := at8_bounds l ((a + j : Nat) : Int)
  by_cases c1 : at8 l ((a + j : Nat) : Int) < 48
  · rw [if_pos (.inl c1)] at hn
    have hN : numB d l = none := by rw [hN,hn]; rfl
    rw [hN]
    (repeat(first|refine yw ?_|((first|apply yd|apply ye);simp (disch:=first|exact zz|fail) only[go_sem,dec_t c1];with_reducible rfl)))
    refine cond_t rfl ?_
    (refine yg ?_)
    exact fin_2 ⟨rfl,rfl⟩
  by_cases c2 : 57 < at8 l ((a + j : Nat) : Int)
  · rw [if_pos (.inr c2)] at hn
    have hN : numB d l = none := by rw [hN,hn]; rfl
    rw [hN]
    (repeat(first|refine yw ?_|((first|apply yd|apply ye);simp (disch:=first|exact zz|fail) only[go_sem,dec_f c1,dec_t c2];with_reducible rfl)))
    refine cond_t rfl ?_
    (refine yg ?_)
    exact fin_2 ⟨rfl,rfl⟩
  rw [if_neg (fun h => h.elim c1 c2)] at hn
  have e1 : ((a + j : Nat) : Int) + 1 = ((a + (j + 1) : Nat) : Int) := by omega
  (repeat(first|refine yw ?_|((first|apply yd|apply ye);simp (disch:=first|exact zz|fail) only[go_sem,dec_f c1,dec_f c2];with_reducible rfl)))
  refine cond_f rfl ?_
  (repeat(first|refine yw ?_|((first|apply yd|apply ye);simp (disch:=first|exact zz|fail) only[go_sem,e1];with_reducible rfl)))
  exact ⟨by omega,10 * n + (at8 l ((a + j : Nat) : Int) - 48),rfl,by simp [forget],by omega,by omega,by rw [hn,show a + (j + 1) = a + j + 1 by omega]⟩
end
end Go.Lq

namespace Go.Lq
open Go
open Go.Proofs
def numR (d : Int) (l : List UInt8) : Option Int := match numB d l with | some n => if at8 l 0 ≠ 45 then some n else none | none => none
theorem numB_pos {d : Int} {l : List UInt8} {n : Int} (h : numB d l = some n) : 0 < l.length := by
  match l with
  | [] =>
    unfold numB at h
    rw [if_pos (.inl (by rfl))] at h
    cases h
  | _ :: _ => simp
section
variable {H : AHeap}
theorem refNum_c {l : List UInt8} {d : Int} (hd : d ≤ 18) (hl : l.length ≤ 1000000) : ACall Go.Proofs.Tryz.prog 126 [.string (bs l),.int .i64 d] H fun v H' =>
    v = .tuple #[.int .i64 ((numB d l).getD 0),.bool (numR d l).isSome] ∧ H' = H := by
  (refine a126 ?_; simp only [n126,List.replicate,yq,yr,yt,yu]; first | refine q1 ?_ | refine q2 ?_ | refine q6 ?_ | refine q7 ?_ | refine qh rfl ?_ | skip)
  (refine yg ?_)
  refine aops_call_to (refNumber_c hd hl) ?_
  cases hb : numB d l with
  | none =>
    have hr : numR d l = none := by unfold numR; rw [hb]
    rw [hr]
    (repeat(first|refine yw ?_|((first|apply yd|apply ye);simp (disch:=first|exact zz|fail) only[go_sem,Option.isSome_none];with_reducible rfl)))
    exact fin_2 ⟨rfl,rfl⟩
  | some n =>
    have hp : (0 : Int) < l.length := by have := numB_pos hb; omega
    by_cases h45 : at8 l 0 = 45
    · have hr : numR d l = none := by unfold numR; rw [hb]; simp [h45]
      rw [hr]
      (repeat(first|refine yw ?_|((first|apply yd|apply ye);simp (disch:=first|exact zz|fail) only[go_sem,Option.isSome_some,dec_f (fun h : at8 l 0 ≠ 45 => h h45)];with_reducible rfl)))
      exact fin_2 ⟨rfl,rfl⟩
    · have hr : numR d l = some n := by unfold numR; rw [hb]; simp [h45]
      rw [hr]
      (repeat(first|refine yw ?_|((first|apply yd|apply ye);simp (disch:=first|exact zz|fail) only[go_sem,Option.isSome_some,dec_t (show at8 l 0 ≠ 45 from h45)];with_reducible rfl)))
      exact fin_2 ⟨rfl,rfl⟩
theorem dec_step {u : Nat} (h : ¬ u < 10) : Lib.decDigits u = Lib.decDigits (u / 10) ++ [UInt8.ofNat (48 + u % 10)] := by
  rw [Lib.decDigits,dif_neg h]
theorem size_c (n : Int) (hn : -9223372036854775807 ≤ n ∧ n ≤ 9223372036854775807) : ACall Go.Proofs.Tryz.prog 104 [.int .i64 n] H fun v H' => v = .int .i64 (max n (-n)) ∧ H' = H := by
  (refine a104 ?_; simp only [n104,List.replicate,yq,yr,yt,yu]; first | refine q1 ?_ | refine q2 ?_ | refine q6 ?_ | refine q7 ?_ | refine qh rfl ?_ | skip)
  (refine yg ?_)
  refine fin_1 ⟨?_,rfl⟩
  simp
theorem tmod_abs (m : Int) : max (m.tmod 10) (-(m.tmod 10)) = ((m.natAbs % 10 : Nat) : Int) := by
  rcases Int.lt_or_le m 0 with h | h
  · obtain ⟨k,rfl⟩ : ∃ k : Nat,m = -(k : Int) := ⟨m.natAbs,by omega⟩
    have h2 : (k : Int).tmod 10 = ((k % 10 : Nat) : Int) := rfl
    rw [Int.neg_tmod,h2,Int.natAbs_neg,Int.natAbs_natCast]
    omega
  · obtain ⟨k,rfl⟩ : ∃ k : Nat,m = (k : Int) := ⟨m.natAbs,by omega⟩
    have h2 : (k : Int).tmod 10 = ((k % 10 : Nat) : Int) := rfl
    rw [h2,Int.natAbs_natCast]
    omega
theorem tdiv_abs (m : Int) : (m.tdiv 10).natAbs = m.natAbs / 10 := by
  rw [Int.natAbs_tdiv]; rfl
theorem tdiv_small (m : Int) (h0 : -9223372036854775808 ≤ m) (h1 : m ≤ 9223372036854775807) : -9223372036854775808 ≤ m.tdiv 10 ∧ m.tdiv 10 ≤ 9223372036854775807 := by
  have := tdiv_abs m
  omega
theorem conv_i8 {H : AHeap} {a : Int} (h0 : 0 ≤ a) (h : a < 256) : convR .u8 (.int .i64 a) H = some (.int .u8 a,H) := by
  simp only [convR,IntKind.wrap,IntKind.bits]
  have : (2 : Int) ^ 8 = 256 := by decide
  simp [IntKind.signed]
  omega
theorem decimal_c {n : Int} (h0 : -9223372036854775808 ≤ n) (h1 : n ≤ 9223372036854775807) : ACall Go.Proofs.Tryz.prog 46 [.int .i64 n] H fun v H' => v = .string (bs (Lib.itoa n)) ∧ H' = H := by
  refine ACall.drop (.string _) ?_
  (refine a46 ?_; simp only [n46,List.replicate,yq,yr,yt,yu]; first | refine q1 ?_ | refine q2 ?_ | refine q6 ?_ | refine q7 ?_ | refine qh rfl ?_ | skip)
  by_cases hz : n = 0
  · subst hz
    (refine yg ?_)
    refine cond_t rfl ?_
    (refine yg ?_)
    refine fin_1 ⟨?_,Ext.refl _⟩
    have : Lib.itoa 0 = [48] := by unfold Lib.itoa; rw [if_neg (by decide),show (0 : Int).toNat = 0 from rfl,Lib.decDigits]; rfl
    rw [this]; rfl
  (repeat(first|refine yw ?_|((first|apply yd|apply ye);simp (disch:=first|exact zz|fail) only[go_sem,dec_f hz];with_reducible rfl)))
  refine cond_f rfl ?_
  (refine yx ?_; (first | apply aops_all | apply adraw_all); simp (disch:=first|exact zz|fail) only[go_sem]; with_reducible rfl)
  refine awp_seq ?_
  refine awp_mid [true,false,true,true,true,false,false,false,false,false,false,false,false,false,false,false,false,false,false,false,false,false,false,false,false,false,false] (fun e J => J = H ∧ e = [.int .i64 n,junk,.string (bs []),.string (bs []),.string (bs (if n < 0 then [45] else [])),junk,junk,junk,junk,junk,junk,junk,junk,junk,junk,junk,junk,junk,junk,junk,junk,junk,junk,junk,junk,junk,junk]) ?_ ?_
  · by_cases hneg : n < 0
    · (repeat(first|refine yw ?_|((first|apply yd|apply ye);simp (disch:=first|exact zz|fail) only[go_sem,dec_t hneg];with_reducible rfl)))
      refine cond_t rfl ?_
      (refine yg ?_)
      exact ⟨rfl,rfl,by simp [forget,hneg]⟩
    · (repeat(first|refine yw ?_|((first|apply yd|apply ye);simp (disch:=first|exact zz|fail) only[go_sem,dec_f hneg];with_reducible rfl)))
      refine cond_f rfl ?_
      (refine yg ?_)
      exact ⟨rfl,rfl,by simp [forget,hneg]⟩
  rintro e J ⟨rfl,rfl⟩
  obtain ⟨sg,hsg⟩ : ∃ sg : List UInt8,sg = if n < 0 then [45] else [] := ⟨_,rfl⟩
  have hsl : sg.length ≤ 1 := by rw [hsg]; split <;> simp
  have hit : Lib.itoa n = sg ++ Lib.decDigits n.natAbs := by
    rw [hsg]; unfold Lib.itoa
    split
    · rfl
    · rw [show n.toNat = n.natAbs by omega]; rfl
  rw [← hsg]
  have hdl : (Lib.decDigits n.natAbs).length ≤ 21 := by
    have := Lib.itoa_length_le n h0 h1
    rw [hit,List.length_append] at this
    omega
  refine yx ?_
  refine awp_loop [true,false,true,true,true,false,false,false,false,false,false,false,false,false,false,false,false,false,false,false,false,false,false,false,false,false,false] (fun k e J' => Ext J J' ∧ ∃ (m : Int) (s : List UInt8),k = m.natAbs ∧ (-9223372036854775808 ≤ m ∧ m ≤ 9223372036854775807) ∧ (if m = 0 then s else Lib.decDigits m.natAbs ++ s) = Lib.decDigits n.natAbs ∧
      e = [.int .i64 m,junk,.string (bs []),.string (bs s),.string (bs sg),junk,junk,junk,junk,junk,junk,junk,junk,junk,junk,junk,junk,junk,junk,junk,junk,junk,junk,junk,junk,junk,junk]) n.natAbs ?_ ?_
  · exact ⟨Ext.refl _,n,[],rfl,⟨h0,h1⟩,by rw [if_neg hz,List.append_nil],by simp [forget]⟩
  rintro k e J' ⟨x1,m,s,rfl,⟨m0,m1⟩,hs,rfl⟩
  by_cases hm : m = 0
  · rw [if_pos hm] at hs
    subst hs
    (repeat(first|refine yw ?_|((first|apply yd|apply ye);simp (disch:=first|exact zz|fail) only[go_sem,dec_f (fun h : m ≠ 0 => h hm)];with_reducible rfl)))
    refine cond_f rfl ?_
    (refine yg ?_)
    refine fin_1 ⟨?_,x1⟩
    rw [hit]; rfl
  have hm' : m ≠ 0 := hm
  rw [if_neg hm] at hs
  have hsl : s.length ≤ 21 := by
    have := congrArg List.length hs
    rw [List.length_append] at this
    omega
  obtain ⟨t0,t1⟩ := tdiv_small m m0 m1
  have tm := tmod_abs m
  have tl := Nat.mod_lt m.natAbs (show 0 < 10 by decide)
  (repeat(first|refine yw ?_|((first|apply yd|apply ye);simp (disch:=first|exact zz|fail) only[go_sem,dec_t hm'];with_reducible rfl)))
  refine cond_t rfl ?_
  (refine yg ?_)
  refine aops_call_to (size_c (m.tmod 10) (by omega)) ?_
  rw [tm]
  (repeat(first|refine yw ?_|((first|apply yd|apply ye);simp (disch:=first|exact zz|fail) only[go_sem,conv_i8,w64_id (n := m.tdiv 10) t0 t1];with_reducible rfl)))
  have e1 : (48 + ((m.natAbs % 10 : Nat) : Int)).toNat = 48 + m.natAbs % 10 := by omega
  refine ⟨_,?_,(x1.app _),m.tdiv 10,UInt8.ofNat (48 + m.natAbs % 10) :: s,rfl,⟨t0,t1⟩,?_,?_⟩
  · rw [tdiv_abs]; omega
  · rw [tdiv_abs,← hs]
    by_cases hq : m.tdiv 10 = 0
    · have : m.natAbs < 10 := by
        have := tdiv_abs m
        rw [hq] at this
        have : m.natAbs / 10 = 0 := this.symm
        omega
      rw [if_pos hq,Lib.decDigits_one this,Nat.mod_eq_of_lt this]; rfl
    · have : ¬ m.natAbs < 10 := fun h => hq (by have := tdiv_abs m; omega)
      rw [if_neg hq,dec_step this,List.append_assoc]; rfl
  · rw [← e1]; simp [forget]
end
end Go.Lq

namespace Go.Lq
open Go
open Go.Proofs
def cutL (c : UInt8) : List UInt8 → List (List UInt8)
  | [] => [[]]
  | b :: r => if b = c then [] :: cutL c r else match cutL c r with | x :: xs => (b :: x) :: xs | [] => [[b]]
def cutFrom (c : UInt8) (pre r : List UInt8) : List (List UInt8) := match cutL c r with | x :: xs => (pre ++ x) :: xs | [] => [pre]
theorem cutL_ne (c : UInt8) (l : List UInt8) : ∃ x xs,cutL c l = x :: xs := by
  cases l with
  | nil => exact ⟨_,_,rfl⟩
  | cons b r =>
    unfold cutL
    split
    · exact ⟨_,_,rfl⟩
    · split <;> exact ⟨_,_,rfl⟩
theorem cutFrom_nil (c : UInt8) (l : List UInt8) : cutFrom c [] l = cutL c l := by
  obtain ⟨x,xs,e⟩ := cutL_ne c l
  unfold cutFrom; rw [e]; rfl
theorem cutFrom_end (c : UInt8) (pre : List UInt8) : cutFrom c pre [] = [pre] := by simp [cutFrom,cutL]
theorem cutFrom_hit (c : UInt8) (pre r : List UInt8) : cutFrom c pre (c :: r) = pre :: cutFrom c [] r := by
  rw [cutFrom_nil]
  simp [cutFrom,cutL]
theorem cutFrom_miss {c b : UInt8} (h : b ≠ c) (pre r : List UInt8) : cutFrom c pre (b :: r) = cutFrom c (pre ++ [b]) r := by
  obtain ⟨x,xs,e⟩ := cutL_ne c r
  unfold cutFrom
  rw [cutL,if_neg h,e]
  simp
theorem cutL_length (c : UInt8) (l : List UInt8) : (cutL c l).length ≤ l.length + 1 := by
  induction l with
  | nil => simp [cutL]
  | cons b r ih =>
    unfold cutL
    split
    · simp; omega
    · obtain ⟨x,xs,e⟩ := cutL_ne c r
      rw [e] at ih ⊢
      simp at ih ⊢; omega
theorem cutL_piece (c : UInt8) (l : List UInt8) : ∀ x ∈ cutL c l,x.length ≤ l.length := by
  induction l with
  | nil => simp [cutL]
  | cons b r ih =>
    unfold cutL
    split
    · intro x hx
      rcases List.mem_cons.1 hx with rfl | hx
      · simp
      · have := ih x hx; simp; omega
    · obtain ⟨y,ys,e⟩ := cutL_ne c r
      rw [e] at ih ⊢
      intro x hx
      rcases List.mem_cons.1 hx with rfl | hx
      · have := ih y (List.mem_cons_self ..); simp; omega
      · have := ih x (List.mem_cons_of_mem _ hx); simp; omega
section
variable {H : AHeap}
theorem cutR_c {l : List UInt8} {c : UInt8} (hl : l.length ≤ 1000000) : ACall Go.Proofs.Tryz.prog 44 [.string (bs l),.int .u8 (c.toNat : Nat)] H (TxtsRet H (cutL c l)) := by
  refine ACall.txts ?_
  (refine a44 ?_; simp only [n44,List.replicate,yq,yr,yt,yu]; first | refine q1 ?_ | refine q2 ?_ | refine q6 ?_ | refine q7 ?_ | refine qh rfl ?_ | skip)
  (refine yg ?_)
  refine awp_loop_n [true,true,false,false,false,true,true,true,false,false,false,false,false,false,false,false,false,false,false,false,false,false,false,false,false,false,false,false,false,false,false,false,false,false] l.length (fun i e H' => Ext H H' ∧ ∃ (out : List (List UInt8)) (f : Nat) (v : Value),OwnS H H' out v ∧ out.length ≤ i ∧ f ≤ i ∧ cutL c l = out ++ cutFrom c ((l.take i).drop f) (l.drop i) ∧
      e = [.string (bs l),.int .u8 (c.toNat : Nat),junk,junk,junk,v,.int .i64 (f : Nat),.int .i64 (i : Nat),junk,junk,junk,junk,junk,junk,junk,junk,junk,junk,junk,junk,junk,junk,junk,junk,junk,junk,junk,junk,junk,junk,junk,junk,junk,junk]) ?_ ?_
  · exact ⟨Ext.refl _,[],0,.slice none 0 0,OwnS.nil _ _,by simp,by simp,by simp [cutFrom_nil],by simp [forget]⟩
  rintro i e H' hi ⟨x1,out,f,v,ho,hol,hf,hc,rfl⟩
  (refine yg ?_)
  refine cond_p rfl (fun hlt => ?_) (fun hge => ?_)
  rotate_left 1
  · obtain rfl : i = l.length := by omega
    rw [List.take_length,List.drop_length,cutFrom_end] at hc
    (repeat(first|refine yw ?_|((first|apply yd|apply ye);simp (disch:=first|exact zz|fail) only[go_sem,ho.push];with_reducible rfl)))
    refine fin_1 ⟨ho.ext x1 _,?_⟩
    have := ho.pushed x1 (l.drop f)
    rw [hc]
    exact this
  have hi' : i < l.length := by omega
  have e1 : (i : Int) + 1 = ((i + 1 : Nat) : Int) := by omega
  have hat : at8 l (i : Nat) = ((l.getD i 0).toNat : Nat) := rfl
  rw [drop_getD (d := (0 : UInt8)) hi'] at hc
  by_cases hb : l.getD i 0 = c
  · have hb' : at8 l (i : Nat) = ((c.toNat : Nat) : Int) := by rw [hat,hb]
    rw [hb,cutFrom_hit] at hc
    (repeat(first|refine yw ?_|((first|apply yd|apply ye);simp (disch:=first|exact zz|fail) only[go_sem,dec_t hb'];with_reducible rfl)))
    refine cond_t rfl ?_
    (repeat(first|refine yw ?_|((first|apply yd|apply ye);simp (disch:=first|exact zz|fail) only[go_sem,ho.push,e1];with_reducible rfl)))
    refine ⟨by omega,ho.ext x1 _,out ++ [(l.take i).drop f],i + 1,pushV H' out.length,ho.pushed x1 _,by simp; omega,by omega,?_,by simp [forget]⟩
    rw [hc,show ((l.take (i + 1)).drop (i + 1)) = [] from List.drop_eq_nil_of_le (by simp; omega),List.append_assoc]
    rfl
  · have hb' : ¬ at8 l (i : Nat) = ((c.toNat : Nat) : Int) := by
      rw [hat]
      intro h
      exact hb (UInt8.toNat_inj.1 (by exact_mod_cast h))
    rw [cutFrom_miss hb] at hc
    (repeat(first|refine yw ?_|((first|apply yd|apply ye);simp (disch:=first|exact zz|fail) only[go_sem,dec_f hb'];with_reducible rfl)))
    refine cond_f rfl ?_
    (repeat(first|refine yw ?_|((first|apply yd|apply ye);simp (disch:=first|exact zz|fail) only[go_sem,e1];with_reducible rfl)))
    refine ⟨by omega,x1,out,f,v,ho,by omega,by omega,?_,by simp [forget]⟩
    rw [hc]
    congr 1
    rw [List.take_succ_eq_append_getElem hi',List.drop_append_of_le_length (by simp; omega)]
    simp [List.getD,hi']
end
end Go.Lq
