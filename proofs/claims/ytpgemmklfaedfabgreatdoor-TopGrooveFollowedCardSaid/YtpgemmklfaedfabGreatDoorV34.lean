/- TopGrooveFollowed is proved: for every input that can be read the law returns true, and each argument reads afterwards as it read before; the listed package variables hold what the program's text lays (the card ties them). -/
import Derived.Test.YtpgemmklfaedfabGreatDoorV33
set_option linter.unusedSimpArgs false
set_option linter.unnecessarySimpa false
set_option linter.unusedVariables false
set_option linter.unusedSectionVars false
set_option maxRecDepth 100000
namespace Go.Lq
open Go
open Go.Proofs
attribute [go_sem] r_idxA
set_option maxRecDepth 100000 in
set_option maxHeartbeats 8000000 in
theorem law3 {H : AHeap} {avs : List Value} (hS : ∃ m t u,Ext (S0 m t u) H) (h : RepAll Tryz.prog H [24] avs) : ACall Tryz.prog 3 avs H fun v _ => v = .bool true := by
  obtain ⟨m,t,u,hx⟩ := hS
  obtain ⟨v,rfl,h1⟩ := h.one
  obtain ⟨rl,L,bend,crack,hrl,rfl,ir,iL,ib,ic⟩ := repDisc h1
  have hs := strH0 hx
  have hsd : SidesAt H := ext_at hx rfl
  have hbig := big0 hx
  (refine a3 ?_; simp only [n3,List.replicate,yq,yr,yt,yu]; first | refine Go.Lq.q1 ?_ | refine Go.Lq.q2 ?_ | refine Go.Lq.q6 ?_ | refine Go.Lq.q7 ?_ | refine Go.Lq.qh rfl ?_ | skip)
  (repeat (first | refine yv ?_ | (apply yd; simp (disch:=first|exact zz|fail) only[go_sem,box_disc];with_reducible rfl)))
  obtain ⟨G,hG⟩ : ∃ G,G = H ++ [AObj.cells true 0 (discC rl L bend crack)] := ⟨_,rfl⟩
  have g0 : G[H.length]? = some (.cells true 0 (discC rl L bend crack)) := by rw [hG]; exact at_new
  have xG : Ext H G := by rw [hG]; exact (Ext.refl H).app _
  rw [← hG]
  clear hG
  (refine aops_call_to (shown_c (hbig.trans xG)) ?_)
  (refine yg ?_)
  refine cond_f rfl ?_
  have l8 := disc_8 hrl g0
  have l9 := disc_9 hrl g0
  have l10 := disc_10 hrl g0
  (repeat(first|refine yw ?_|((first|apply yd|apply ye);simp (disch:=first|exact zz|fail) only[go_sem,l8];with_reducible rfl)))
  (refine aops_call_to (bwithin_c L 1 255) ?_)
  by_cases c1 : 1 ≤ L ∧ L ≤ 255
  rotate_left 1
  · (repeat(first|refine yw ?_|((first|apply yd|apply ye);simp (disch:=first|exact zz|fail) only[go_sem,dec_f c1];with_reducible rfl)))
    refine cond_t rfl ?_
    (refine yg ?_)
    exact fin_1 rfl
  (repeat(first|refine yw ?_|((first|apply yd|apply ye);simp (disch:=first|exact zz|fail) only[go_sem,dec_t c1,l9];with_reducible rfl)))
  (refine aops_call_to (bwithin_c bend 0 1000) ?_)
  by_cases c2 : 0 ≤ bend ∧ bend ≤ 1000
  rotate_left 1
  · (repeat(first|refine yw ?_|((first|apply yd|apply ye);simp (disch:=first|exact zz|fail) only[go_sem,dec_f c2];with_reducible rfl)))
    refine cond_t rfl ?_
    (refine yg ?_)
    exact fin_1 rfl
  by_cases c3 : L ≤ 7 * bend
  · (repeat(first|refine yw ?_|((first|apply yd|apply ye);simp (disch:=first|exact zz|fail) only[go_sem,dec_t c2,l9,l8,dec_t c3];with_reducible rfl)))
    refine cond_t rfl ?_
    (refine yg ?_)
    exact fin_1 rfl
  (repeat(first|refine yw ?_|((first|apply yd|apply ye);simp (disch:=first|exact zz|fail) only[go_sem,dec_t c2,l9,l8,dec_f c3,l10];with_reducible rfl)))
  (refine aops_call_to (bwithin_c crack (-1) 6) ?_)
  by_cases c4 : -1 ≤ crack ∧ crack ≤ 6
  rotate_left 1
  · (repeat(first|refine yw ?_|((first|apply yd|apply ye);simp (disch:=first|exact zz|fail) only[go_sem,dec_f c4];with_reducible rfl)))
    refine cond_t rfl ?_
    (refine yg ?_)
    exact fin_1 rfl
  (repeat(first|refine yw ?_|((first|apply yd|apply ye);simp (disch:=first|exact zz|fail) only[go_sem,dec_t c4];with_reducible rfl)))
  refine cond_f rfl ?_
  (refine yg ?_)
  refine awp_loop_n [false,true,false,true,false,false,false,false,false,false,false,false,false,false,false,false,false,false,false,false,false,false,false,false,false,false,false,false,false,false,false,false,false,false,false,false,false,false,false,false,false,false,false,false,false,false,false,false,false,false,false,false,false,false,false,false,false,false,false,false,false,false,false,false,false,false,false,false,false,false,false,false,false,false,false,false,false,false,false,false,false,false,false,false,false,false,false,false,false,false,false,false,false,false,false,false,false,false,false,false,false,false,false,false,false,false,false,false,false,false,false,false,false,false,false,false,false,false,false,false,false,false,false,false,false,false,false,false,false,false,false,false,false,false,false,false,false,false,false,false,false,false,false,false,false,false,false,false,false,false,false,false,false,false,false,false,false,false,false,false,false,false,false,false,false,false,false,false,false,false,false,false,false,false,false,false,false,false,false,false,false,false,false,false,false,false,false,false,false,false,false,false,false,false,false,false,false,false,false,false,false,false,false,false,false,false,false,false,false,false,false,false,false,false,false,false,false,false,false,false,false,false,false,false,false,false,false,false,false,false,false,false,false,false,false,false,false,false,false,false,false,false,false,false,false,false,false,false,false,false,false,false,false,false,false,false,false,false,false,false,false,false,false,false,false,false,false,false,false,false,false,false,false,false,false,false,false,false,false,false,false,false,false,false,false,false,false,false,false,false,false,false,false,false,false,false,false,false,false,false,false,false,false,false,false,false,false,false,false,false,false,false,false,false,false,false,false,false,false,false,false,false,false,false,false,false,false,false,false,false,false,false,false,false,false,false,false,false,false,false,false,false,false,false] 8 (fun i e J => J = G ∧ e = [junk,.pointer (some ⟨H.length,0,none⟩),junk,.int .i64 i,junk,junk,junk,junk,junk,junk,junk,junk,junk,junk,junk,junk,junk,junk,junk,junk,junk,junk,junk,junk,junk,junk,junk,junk,junk,junk,junk,junk,junk,junk,junk,junk,junk,junk,junk,junk,junk,junk,junk,junk,junk,junk,junk,junk,junk,junk,junk,junk,junk,junk,junk,junk,junk,junk,junk,junk,junk,junk,junk,junk,junk,junk,junk,junk,junk,junk,junk,junk,junk,junk,junk,junk,junk,junk,junk,junk,junk,junk,junk,junk,junk,junk,junk,junk,junk,junk,junk,junk,junk,junk,junk,junk,junk,junk,junk,junk,junk,junk,junk,junk,junk,junk,junk,junk,junk,junk,junk,junk,junk,junk,junk,junk,junk,junk,junk,junk,junk,junk,junk,junk,junk,junk,junk,junk,junk,junk,junk,junk,junk,junk,junk,junk,junk,junk,junk,junk,junk,junk,junk,junk,junk,junk,junk,junk,junk,junk,junk,junk,junk,junk,junk,junk,junk,junk,junk,junk,junk,junk,junk,junk,junk,junk,junk,junk,junk,junk,junk,junk,junk,junk,junk,junk,junk,junk,junk,junk,junk,junk,junk,junk,junk,junk,junk,junk,junk,junk,junk,junk,junk,junk,junk,junk,junk,junk,junk,junk,junk,junk,junk,junk,junk,junk,junk,junk,junk,junk,junk,junk,junk,junk,junk,junk,junk,junk,junk,junk,junk,junk,junk,junk,junk,junk,junk,junk,junk,junk,junk,junk,junk,junk,junk,junk,junk,junk,junk,junk,junk,junk,junk,junk,junk,junk,junk,junk,junk,junk,junk,junk,junk,junk,junk,junk,junk,junk,junk,junk,junk,junk,junk,junk,junk,junk,junk,junk,junk,junk,junk,junk,junk,junk,junk,junk,junk,junk,junk,junk,junk,junk,junk,junk,junk,junk,junk,junk,junk,junk,junk,junk,junk,junk,junk,junk,junk,junk,junk,junk,junk,junk,junk,junk,junk,junk,junk,junk,junk,junk,junk,junk,junk,junk,junk,junk,junk,junk,junk,junk,junk,junk,junk,junk,junk,junk,junk,junk,junk,junk,junk,junk,junk,junk,junk,junk,junk,junk,junk,junk,junk,junk,junk,junk] ∧ ∀ j : Nat,j < i → (1 ≤ rl.getD j 0 ∧ rl.getD j 0 ≤ 6) ∧ (0 < j → -1 ≤ rl.getD j 0 - rl.getD (j - 1) 0 ∧ rl.getD j 0 - rl.getD (j - 1) 0 ≤ 1)) ?_ ?_
  · exact ⟨rfl,by simp [forget],by omega⟩
  rintro i e J hi ⟨rfl,rfl,hbef⟩
  (refine yg ?_)
  refine cond_p rfl (fun hlt => ?_) (fun hge => ?_)
  · have hi8 : i < 8 := by omega
    have lk := disc_r hrl g0 hi8
    have ak := idxA8 (id := H.length) (J := J) hi8
    (repeat(first|refine yw ?_|((first|apply yd|apply ye);simp (disch:=first|exact zz|fail) only[go_sem,ak,lk];with_reducible rfl)))
    (refine adraw_call (N := []) (firstD (bwithin_c (rl.getD i 0) 1 6)) ?_; rw [List.append_nil])
    by_cases d1 : 1 ≤ rl.getD i 0 ∧ rl.getD i 0 ≤ 6
    rotate_left 1
    · (repeat(first|refine yw ?_|((first|apply yd|apply ye);simp (disch:=first|exact zz|fail) only[go_sem,dec_f d1];with_reducible rfl)))
      refine cond_t rfl ?_
      (refine yg ?_)
      exact fin_1 rfl
    by_cases d0 : i = 0
    · (repeat(first|refine yw ?_|((first|apply yd|apply ye);simp (disch:=first|exact zz|fail) only[go_sem,dec_t d1,dec_f (show ¬ (0 : Int) < (i : Int) by omega)];with_reducible rfl)))
      refine cond_f rfl ?_
      (refine yg ?_)
      refine ⟨by omega,rfl,by simp [forget],fun j hj => ?_⟩
      obtain rfl : j = i := by omega
      exact ⟨d1,fun h => by omega⟩
    · have e1 : (i : Int) - 1 = ((i - 1 : Nat) : Int) := by omega
      have lj := disc_r hrl g0 (k := i - 1) (by omega)
      have aj := idxA8 (id := H.length) (J := J) (k := i - 1) (by omega)
      have hb1 := (hbef (i - 1) (by omega)).1
      (repeat(first|refine yw ?_|((first|apply yd|apply ye);simp (disch:=first|exact zz|fail) only[go_sem,dec_t d1,dec_t (show (0 : Int) < (i : Int) by omega),ak,lk,e1,aj,lj];with_reducible rfl)))
      (refine adraw_call (N := []) (firstD (bwithin_c (rl.getD i 0 - rl.getD (i - 1) 0) (-1) 1)) ?_; rw [List.append_nil])
      by_cases d2 : -1 ≤ rl.getD i 0 - rl.getD (i - 1) 0 ∧ rl.getD i 0 - rl.getD (i - 1) 0 ≤ 1
      · (repeat(first|refine yw ?_|((first|apply yd|apply ye);simp (disch:=first|exact zz|fail) only[go_sem,dec_t d2];with_reducible rfl)))
        refine cond_f rfl ?_
        (refine yg ?_)
        refine ⟨by omega,rfl,by simp [forget],fun j hj => ?_⟩
        by_cases hji : j = i
        · subst hji; exact ⟨d1,fun _ => d2⟩
        · exact hbef j (by omega)
      · (repeat(first|refine yw ?_|((first|apply yd|apply ye);simp (disch:=first|exact zz|fail) only[go_sem,dec_f d2];with_reducible rfl)))
        refine cond_t rfl ?_
        (refine yg ?_)
        exact fin_1 rfl
  obtain rfl : i = 8 := by omega
  have hD : Disc (fun k => (rl.getD k 0).toNat) L crack bend := ⟨fun k hk => by have := (hbef k hk).1; omega,fun k h0 hk => by have := (hbef k hk).1; have := (hbef (k - 1) (by omega)).1; have := (hbef k hk).2 h0; omega,c1,c2,by omega,c4⟩
  have hrad : ∀ k : Nat,k < 8 → 1 ≤ rl.getD k 0 ∧ rl.getD k 0 ≤ 6 := fun k hk => (hbef k hk).1
  clear hbef hge hi
  (refine yg ?_)
  refine awp_loop_n [false,true,false,false,true,true,false,false,false,false,false,false,false,false,false,false,false,false,false,false,false,false,false,false,false,false,false,false,false,false,false,false,false,false,false,false,false,false,false,false,false,false,false,false,false,false,false,false,false,false,false,false,false,false,false,false,false,false,false,false,false,false,false,false,false,false,false,false,false,false,false,false,false,false,false,false,false,false,false,false,false,false,false,false,false,false,false,false,false,false,false,false,false,false,false,false,false,false,false,false,false,false,false,false,false,false,false,false,false,false,false,false,false,false,false,false,false,false,false,false,false,false,false,false,false,false,false,false,false,false,false,false,false,false,false,false,false,false,false,false,false,false,false,false,false,false,false,false,false,false,false,false,false,false,false,false,false,false,false,false,false,false,false,false,false,false,false,false,false,false,false,false,false,false,false,false,false,false,false,false,false,false,false,false,false,false,false,false,false,false,false,false,false,false,false,false,false,false,false,false,false,false,false,false,false,false,false,false,false,false,false,false,false,false,false,false,false,false,false,false,false,false,false,false,false,false,false,false,false,false,false,false,false,false,false,false,false,false,false,false,false,false,false,false,false,false,false,false,false,false,false,false,false,false,false,false,false,false,false,false,false,false,false,false,false,false,false,false,false,false,false,false,false,false,false,false,false,false,false,false,false,false,false,false,false,false,false,false,false,false,false,false,false,false,false,false,false,false,false,false,false,false,false,false,false,false,false,false,false,false,false,false,false,false,false,false,false,false,false,false,false,false,false,false,false,false,false,false,false,false,false,false,false,false,false,false,false,false,false,false,false,false,false,false] 13 (fun i e K => ∃ v,Ext (J ++ [AObj.cells true 0 [v]]) K ∧ OwnL (J ++ [AObj.cells true 0 [v]]) K (rowsZ L i) v ∧ e = [junk,.pointer (some ⟨H.length,0,none⟩),junk,junk,.pointer (some ⟨J.length,0,none⟩),.int .i64 i,junk,junk,junk,junk,junk,junk,junk,junk,junk,junk,junk,junk,junk,junk,junk,junk,junk,junk,junk,junk,junk,junk,junk,junk,junk,junk,junk,junk,junk,junk,junk,junk,junk,junk,junk,junk,junk,junk,junk,junk,junk,junk,junk,junk,junk,junk,junk,junk,junk,junk,junk,junk,junk,junk,junk,junk,junk,junk,junk,junk,junk,junk,junk,junk,junk,junk,junk,junk,junk,junk,junk,junk,junk,junk,junk,junk,junk,junk,junk,junk,junk,junk,junk,junk,junk,junk,junk,junk,junk,junk,junk,junk,junk,junk,junk,junk,junk,junk,junk,junk,junk,junk,junk,junk,junk,junk,junk,junk,junk,junk,junk,junk,junk,junk,junk,junk,junk,junk,junk,junk,junk,junk,junk,junk,junk,junk,junk,junk,junk,junk,junk,junk,junk,junk,junk,junk,junk,junk,junk,junk,junk,junk,junk,junk,junk,junk,junk,junk,junk,junk,junk,junk,junk,junk,junk,junk,junk,junk,junk,junk,junk,junk,junk,junk,junk,junk,junk,junk,junk,junk,junk,junk,junk,junk,junk,junk,junk,junk,junk,junk,junk,junk,junk,junk,junk,junk,junk,junk,junk,junk,junk,junk,junk,junk,junk,junk,junk,junk,junk,junk,junk,junk,junk,junk,junk,junk,junk,junk,junk,junk,junk,junk,junk,junk,junk,junk,junk,junk,junk,junk,junk,junk,junk,junk,junk,junk,junk,junk,junk,junk,junk,junk,junk,junk,junk,junk,junk,junk,junk,junk,junk,junk,junk,junk,junk,junk,junk,junk,junk,junk,junk,junk,junk,junk,junk,junk,junk,junk,junk,junk,junk,junk,junk,junk,junk,junk,junk,junk,junk,junk,junk,junk,junk,junk,junk,junk,junk,junk,junk,junk,junk,junk,junk,junk,junk,junk,junk,junk,junk,junk,junk,junk,junk,junk,junk,junk,junk,junk,junk,junk,junk,junk,junk,junk,junk,junk,junk,junk,junk,junk,junk,junk,junk,junk,junk,junk,junk,junk,junk,junk,junk,junk,junk,junk,junk,junk,junk,junk,junk,junk,junk,junk,junk,junk,junk,junk,junk,junk]) ?_ ?_
  · exact ⟨.slice none 0 0,Ext.refl _,OwnL.nil _ _,by simp [forget]⟩
  rintro i e K hi ⟨v,xK,oK,rfl⟩
  have kb : K[J.length]? = some (.cells true 0 [v]) := xK.cell at_new
  have k0 : K[H.length]? = some (.cells true 0 (discC rl L bend crack)) := xK.cell (at_app g0)
  (refine yg ?_)
  refine cond_p rfl (fun hlt => ?_) (fun hge => ?_)
  · have i13 : i < 13 := by omega
    (repeat(first|refine yw ?_|((first|apply yd|apply ye);simp (disch:=first|exact zz|fail) only[go_sem,mkRow (L := L)];with_reducible rfl)))
    refine awp_loop_n [false,true,false,false,true,true,true,true,false,false,false,false,false,false,false,false,false,false,false,false,false,false,false,false,false,false,false,false,false,false,false,false,false,false,false,false,false,false,false,false,false,false,false,false,false,false,false,false,false,false,false,false,false,false,false,false,false,false,false,false,false,false,false,false,false,false,false,false,false,false,false,false,false,false,false,false,false,false,false,false,false,false,false,false,false,false,false,false,false,false,false,false,false,false,false,false,false,false,false,false,false,false,false,false,false,false,false,false,false,false,false,false,false,false,false,false,false,false,false,false,false,false,false,false,false,false,false,false,false,false,false,false,false,false,false,false,false,false,false,false,false,false,false,false,false,false,false,false,false,false,false,false,false,false,false,false,false,false,false,false,false,false,false,false,false,false,false,false,false,false,false,false,false,false,false,false,false,false,false,false,false,false,false,false,false,false,false,false,false,false,false,false,false,false,false,false,false,false,false,false,false,false,false,false,false,false,false,false,false,false,false,false,false,false,false,false,false,false,false,false,false,false,false,false,false,false,false,false,false,false,false,false,false,false,false,false,false,false,false,false,false,false,false,false,false,false,false,false,false,false,false,false,false,false,false,false,false,false,false,false,false,false,false,false,false,false,false,false,false,false,false,false,false,false,false,false,false,false,false,false,false,false,false,false,false,false,false,false,false,false,false,false,false,false,false,false,false,false,false,false,false,false,false,false,false,false,false,false,false,false,false,false,false,false,false,false,false,false,false,false,false,false,false,false,false,false,false,false,false,false,false,false,false,false,false,false,false,false,false,false,false,false,false,false] 13 (fun j e M => M = K ++ [AObj.cells true 1 ((rowZ L j).map (.int .i64))] ∧ e = [junk,.pointer (some ⟨H.length,0,none⟩),junk,junk,.pointer (some ⟨J.length,0,none⟩),.int .i64 i,.slice (some ⟨K.length,0,none⟩) 13 13,.int .i64 j,junk,junk,junk,junk,junk,junk,junk,junk,junk,junk,junk,junk,junk,junk,junk,junk,junk,junk,junk,junk,junk,junk,junk,junk,junk,junk,junk,junk,junk,junk,junk,junk,junk,junk,junk,junk,junk,junk,junk,junk,junk,junk,junk,junk,junk,junk,junk,junk,junk,junk,junk,junk,junk,junk,junk,junk,junk,junk,junk,junk,junk,junk,junk,junk,junk,junk,junk,junk,junk,junk,junk,junk,junk,junk,junk,junk,junk,junk,junk,junk,junk,junk,junk,junk,junk,junk,junk,junk,junk,junk,junk,junk,junk,junk,junk,junk,junk,junk,junk,junk,junk,junk,junk,junk,junk,junk,junk,junk,junk,junk,junk,junk,junk,junk,junk,junk,junk,junk,junk,junk,junk,junk,junk,junk,junk,junk,junk,junk,junk,junk,junk,junk,junk,junk,junk,junk,junk,junk,junk,junk,junk,junk,junk,junk,junk,junk,junk,junk,junk,junk,junk,junk,junk,junk,junk,junk,junk,junk,junk,junk,junk,junk,junk,junk,junk,junk,junk,junk,junk,junk,junk,junk,junk,junk,junk,junk,junk,junk,junk,junk,junk,junk,junk,junk,junk,junk,junk,junk,junk,junk,junk,junk,junk,junk,junk,junk,junk,junk,junk,junk,junk,junk,junk,junk,junk,junk,junk,junk,junk,junk,junk,junk,junk,junk,junk,junk,junk,junk,junk,junk,junk,junk,junk,junk,junk,junk,junk,junk,junk,junk,junk,junk,junk,junk,junk,junk,junk,junk,junk,junk,junk,junk,junk,junk,junk,junk,junk,junk,junk,junk,junk,junk,junk,junk,junk,junk,junk,junk,junk,junk,junk,junk,junk,junk,junk,junk,junk,junk,junk,junk,junk,junk,junk,junk,junk,junk,junk,junk,junk,junk,junk,junk,junk,junk,junk,junk,junk,junk,junk,junk,junk,junk,junk,junk,junk,junk,junk,junk,junk,junk,junk,junk,junk,junk,junk,junk,junk,junk,junk,junk,junk,junk,junk,junk,junk,junk,junk,junk,junk,junk,junk,junk,junk,junk,junk,junk,junk,junk,junk,junk,junk,junk,junk,junk,junk,junk]) ?_ ?_
    · exact ⟨rfl,by simp [forget]⟩
    rintro j e M hj ⟨rfl,rfl⟩
    (refine yg ?_)
    refine cond_p rfl (fun hlt2 => ?_) (fun hge2 => ?_)
    · have j13 : j < 13 := by omega
      have l8' := disc_8 (L := L) (bend := bend) (crack := crack) hrl (at_app (N := [AObj.cells true 1 ((rowZ L j).map (.int .i64))]) k0)
      (repeat(first|refine yw ?_|((first|apply yd|apply ye);simp (disch:=first|exact zz|fail) only[go_sem,l8',idxRow (K := K) j13,storeRow (K := K) (L := L) j13];with_reducible rfl)))
      exact ⟨by omega,rfl,by simp [forget]⟩
    obtain rfl : j = 13 := by omega
    have hw : OwnI K (K ++ [AObj.cells true 1 ((rowZ L 13).map (.int .i64))]) (rowZ L 13) (.slice (some ⟨K.length,0,none⟩) 13 13) := OwnI.last (l := rowZ L 13) (Nat.le_refl _) (by rw [rowZ_len (by omega)]; omega)
    have xw : Ext K (K ++ [AObj.cells true 1 ((rowZ L 13).map (.int .i64))]) := (Ext.refl K).app _
    have kw := at_app (N := [AObj.cells true 1 ((rowZ L 13).map (.int .i64))]) kb
    generalize (K ++ [AObj.cells true 1 ((rowZ L 13).map (.int .i64))] : AHeap) = K1 at hw xw kw
    obtain ⟨v',K',hap,oK',xK'⟩ := oK.pushRow xK xw hw (by rw [rowZ_len (by omega)]; omega) (by rw [rowsZ_len]; omega)
    rw [rowsZ_succ] at oK'
    obtain ⟨a',n',d',rfl⟩ := oK'.shape
    have lb : loadR (.pointer (some ⟨J.length,0,none⟩)) K1 = some (v,K1) := by rw [load_at kw]; rfl
    have kb' : K'[J.length]? = some (.cells true 0 [v]) := xK'.cell at_new
    have hst : storeR 1 (.pointer (some ⟨J.length,0,none⟩)) (.slice a' n' d') K' = some (undef,K'.set J.length (.cells true 0 [.slice a' n' d'])) := store_inZ kb' (by simp) (isAtom_slice ..) rfl
    (repeat(first|refine yw ?_|((first|apply yd|apply ye);simp (disch:=first|exact zz|fail) only[go_sem,lb,fillA_slice,hap,hst];with_reducible rfl)))
    exact ⟨by omega,_,xK'.last_setZ _,(oK'.set (by simp) _).weaken (by simp),by simp [forget]⟩
  obtain rfl : i = 13 := by omega
  obtain ⟨R,hR⟩ : ∃ R : Nat → Nat,R = fun k => (rl.getD k 0).toNat := ⟨_,rfl⟩
  rw [← hR] at hD
  have hRk : ∀ k,k < 8 → rl.getD k 0 = (R k : Int) := fun k hk => by have := hrad k hk; rw [hR]; show _ = (((rl.getD k 0).toNat : Nat) : Int); omega
  clear hR
  rw [rowsZ_end R L crack] at oK
  clear kb k0 hge hi
  (refine yg ?_)
  refine awp_loop_n [false,true,false,false,true,false,false,false,true,false,false,false,false,false,false,false,false,false,false,false,false,false,false,false,false,false,false,false,false,false,false,false,false,false,false,false,false,false,false,false,false,false,false,false,false,false,false,false,false,false,false,false,false,false,false,false,false,false,false,false,false,false,false,false,false,false,false,false,false,false,false,false,false,false,false,false,false,false,false,false,false,false,false,false,false,false,false,false,false,false,false,false,false,false,false,false,false,false,false,false,false,false,false,false,false,false,false,false,false,false,false,false,false,false,false,false,false,false,false,false,false,false,false,false,false,false,false,false,false,false,false,false,false,false,false,false,false,false,false,false,false,false,false,false,false,false,false,false,false,false,false,false,false,false,false,false,false,false,false,false,false,false,false,false,false,false,false,false,false,false,false,false,false,false,false,false,false,false,false,false,false,false,false,false,false,false,false,false,false,false,false,false,false,false,false,false,false,false,false,false,false,false,false,false,false,false,false,false,false,false,false,false,false,false,false,false,false,false,false,false,false,false,false,false,false,false,false,false,false,false,false,false,false,false,false,false,false,false,false,false,false,false,false,false,false,false,false,false,false,false,false,false,false,false,false,false,false,false,false,false,false,false,false,false,false,false,false,false,false,false,false,false,false,false,false,false,false,false,false,false,false,false,false,false,false,false,false,false,false,false,false,false,false,false,false,false,false,false,false,false,false,false,false,false,false,false,false,false,false,false,false,false,false,false,false,false,false,false,false,false,false,false,false,false,false,false,false,false,false,false,false,false,false,false,false,false,false,false,false,false,false,false,false,false] 8 (fun i e K => ∃ v,Ext (J ++ [AObj.cells true 0 [v]]) K ∧ OwnL (J ++ [AObj.cells true 0 [v]]) K (img R L crack i) v ∧ e = [junk,.pointer (some ⟨H.length,0,none⟩),junk,junk,.pointer (some ⟨J.length,0,none⟩),junk,junk,junk,.int .i64 i,junk,junk,junk,junk,junk,junk,junk,junk,junk,junk,junk,junk,junk,junk,junk,junk,junk,junk,junk,junk,junk,junk,junk,junk,junk,junk,junk,junk,junk,junk,junk,junk,junk,junk,junk,junk,junk,junk,junk,junk,junk,junk,junk,junk,junk,junk,junk,junk,junk,junk,junk,junk,junk,junk,junk,junk,junk,junk,junk,junk,junk,junk,junk,junk,junk,junk,junk,junk,junk,junk,junk,junk,junk,junk,junk,junk,junk,junk,junk,junk,junk,junk,junk,junk,junk,junk,junk,junk,junk,junk,junk,junk,junk,junk,junk,junk,junk,junk,junk,junk,junk,junk,junk,junk,junk,junk,junk,junk,junk,junk,junk,junk,junk,junk,junk,junk,junk,junk,junk,junk,junk,junk,junk,junk,junk,junk,junk,junk,junk,junk,junk,junk,junk,junk,junk,junk,junk,junk,junk,junk,junk,junk,junk,junk,junk,junk,junk,junk,junk,junk,junk,junk,junk,junk,junk,junk,junk,junk,junk,junk,junk,junk,junk,junk,junk,junk,junk,junk,junk,junk,junk,junk,junk,junk,junk,junk,junk,junk,junk,junk,junk,junk,junk,junk,junk,junk,junk,junk,junk,junk,junk,junk,junk,junk,junk,junk,junk,junk,junk,junk,junk,junk,junk,junk,junk,junk,junk,junk,junk,junk,junk,junk,junk,junk,junk,junk,junk,junk,junk,junk,junk,junk,junk,junk,junk,junk,junk,junk,junk,junk,junk,junk,junk,junk,junk,junk,junk,junk,junk,junk,junk,junk,junk,junk,junk,junk,junk,junk,junk,junk,junk,junk,junk,junk,junk,junk,junk,junk,junk,junk,junk,junk,junk,junk,junk,junk,junk,junk,junk,junk,junk,junk,junk,junk,junk,junk,junk,junk,junk,junk,junk,junk,junk,junk,junk,junk,junk,junk,junk,junk,junk,junk,junk,junk,junk,junk,junk,junk,junk,junk,junk,junk,junk,junk,junk,junk,junk,junk,junk,junk,junk,junk,junk,junk,junk,junk,junk,junk,junk,junk,junk,junk,junk,junk,junk,junk,junk,junk,junk,junk,junk,junk,junk,junk,junk]) ?_ ?_
  · exact ⟨v,xK,oK,by simp [forget]⟩
  clear xK oK v
  clear K
  rintro k e K hi ⟨v,xK,oK,rfl⟩
  have kb : K[J.length]? = some (.cells true 0 [v]) := xK.cell at_new
  have k0 : K[H.length]? = some (.cells true 0 (discC rl L bend crack)) := xK.cell (at_app g0)
  have m10 := disc_10 hrl k0
  (refine yg ?_)
  refine cond_p rfl (fun hlt => ?_) (fun hge => ?_)
  · have k8 : k < 8 := by omega
    by_cases hc : (k : Int) = crack
    · (repeat(first|refine yw ?_|((first|apply yd|apply ye);simp (disch:=first|exact zz|fail) only[go_sem,m10,dec_f (show ¬ (k : Int) ≠ crack from fun h => h hc)];with_reducible rfl)))
      refine cond_f rfl ?_
      (refine yg ?_)
      refine ⟨by omega,v,xK,?_,by simp [forget]⟩
      show OwnL _ _ (if (k : Int) = crack then img R L crack k else _) v
      rw [if_pos hc]; exact oK
    · (repeat(first|refine yw ?_|((first|apply yd|apply ye);simp (disch:=first|exact zz|fail) only[go_sem,m10,dec_t (show (k : Int) ≠ crack from hc)];with_reducible rfl)))
      refine cond_t rfl ?_
      have hr := hD.ring k k8
      have lk := disc_r (L := L) (bend := bend) (crack := crack) hrl k0 k8
      rw [hRk k k8] at lk
      have ak := idxA8 (id := H.length) (J := K) k8
      refine yx ?_
      (repeat (first | refine yv ?_ | (apply ye; simp (disch:=first|exact zz|fail) only[go_sem,ak,lk];with_reducible rfl)))
      refine adraw_call (refRing_c (r := R k) hr.1 (by omega)) ?_
      have hP : Pairs (K ++ retN 2 (ringP 0 0 (R k)).length (flatP (ringP 0 0 (R k)))) (ringP 0 0 (R k)) (retV K (ringP 0 0 (R k)).length) := Pairs.ret
      obtain ⟨K2,hK2⟩ : ∃ K2,K2 = K ++ retN 2 (ringP 0 0 (R k)).length (flatP (ringP 0 0 (R k))) := ⟨_,rfl⟩
      have x2 : Ext K K2 := by rw [hK2]; exact (Ext.refl K).app _
      rw [← hK2] at hP ⊢
      clear hK2
      generalize retV K (ringP 0 0 (R k)).length = rv at hP
      have lk2 := disc_r (L := L) (bend := bend) (crack := crack) hrl (x2.cell k0) k8
      rw [hRk k k8] at lk2
      have ak2 := idxA8 (id := H.length) (J := K2) k8
      obtain ⟨em,bm⟩ := mul_rk (r := R k) (k := k) hr.2 k8
      have hin := ring_here (R k) (by omega) k k8 hr.1
      have ix := hP.idx (H' := K2) (i := ((R k * k : Nat) : Int)) (k := .i64) (by omega) (by omega)
      rw [Int.toNat_natCast] at ix
      have hp2 := (hP.load (Ext.refl K2) hin).1
      have hpa : (ringP 0 0 (R k)).getD (R k * k) (0,0) = pAt (R k) k := rfl
      rw [hpa] at hp2
      (repeat (first | refine yv ?_ | (apply ye; simp (disch:=first|exact zz|fail) only[go_sem,ak2,lk2,em,ix,hp2];with_reducible rfl)))
      obtain ⟨ey,ex,q1',q2',q3',q4'⟩ := pAt_y (r := R k) (k := k) (by omega) k8
      obtain ⟨hyl,hxl⟩ := yAt_lt (r := R k) (k := k) (by omega) k8
      obtain ⟨K3,hK3⟩ : ∃ K3,K3 = K2 ++ [AObj.cells true 0 [.int .i64 (pAt (R k) k).1,.int .i64 (pAt (R k) k).2]] := ⟨_,rfl⟩
      have g9 : K3[K2.length]? = some (.cells true 0 [.int .i64 (pAt (R k) k).1,.int .i64 (pAt (R k) k).2]) := by rw [hK3]; exact at_new
      have x3 : Ext K K3 := by rw [hK3]; exact x2.app _
      rw [← hK3]
      clear hK3
      have b3 : loadR (.pointer (some ⟨J.length,0,none⟩)) K3 = some (v,K3) := by rw [load_at (x3.cell kb)]; rfl
      have px : loadR (.pointer (some ⟨K2.length,0,none⟩)) K3 = some (.int .i64 (pAt (R k) k).1,K3) := by rw [load_at g9]; rfl
      have py : loadR (.pointer (some ⟨K2.length,1,none⟩)) K3 = some (.int .i64 (pAt (R k) k).2,K3) := by rw [load_at g9]; rfl
      obtain ⟨id1,id2⟩ := img_dims (L := L) (crack := crack) hD.ring k (by omega)
      obtain ⟨id,hix,hld,hst,oN,hge'⟩ := (oK.ext' x3).cellZ (i := yAt (R k) k) (c := xAt (R k) k) (by omega) (by rw [id2 _ hyl]; exact hxl) 0
      rw [id2 _ hyl] at hld
      have xN := (xK.trans x3).set hge' (AObj.cells true 1 ((((img R L crack k).getD (yAt (R k) k) []).set (xAt (R k) k) 0).map (.int .i64)))
      have hiR := idxRowI (id := id) (j := xAt (R k) k) (M := K3) hxl
      have hix3 := hix K3
      clear hix
      (repeat(first|refine yw ?_|((first|apply yd|apply ye);simp (disch:=first|exact zz|fail) only[go_sem,b3,py,ey,hix3,hld,px,ex,hiR,hst];with_reducible rfl)))
      refine ⟨by omega,v,xN,?_,by simp [forget]⟩
      show OwnL _ _ (if (k : Int) = crack then img R L crack k else _) v
      rw [if_neg hc]; exact oN
  obtain rfl : k = 8 := by omega
  obtain ⟨us,hL⟩ := oK.lists
  obtain ⟨di1,di2⟩ := img_dims (L := L) (crack := crack) hD.ring 8 (Nat.le_refl _)
  have dir : ∀ i,i < (img R L crack 8).length → ((img R L crack 8).getD i []).length ≤ 1000000 := fun i hi => by rw [di1] at hi; rw [di2 i hi]; omega
  have dir9 : ∀ i,i < (img R L crack 8).length → ((img R L crack 8).getD i []).length ≤ 1000000000 := fun i hi => by rw [di1] at hi; rw [di2 i hi]; omega
  have hun := unrolled_disc hD
  have n1 : loadNR 1 (.pointer (some ⟨J.length,0,none⟩)) K = some (.agg ⟨[v]⟩,K) := loadN_at kb (by simp)
  have xJK : Ext J K := ((Ext.refl J).app [AObj.cells true 0 [v]]).trans xK
  (repeat(first|refine yw ?_|((first|apply yd|apply ye);simp (disch:=first|exact zz|fail) only[go_sem,n1];with_reducible rfl)))
  (refine aops_call_to (copyImageD_c hL (by omega) dir) ?_)
  obtain ⟨us1,hC⟩ := ret_lists (H := K) (ll := img R L crack 8)
  have x1 : Ext K (K ++ retLN K (img R L crack 8)) := (Ext.refl K).app _
  generalize K ++ retLN K (img R L crack 8) = K4 at hC x1
  generalize retLV K (img R L crack 8) = cv at hC
  have xJ4 := xJK.trans x1
  have hunr := unrolled_c (x := 6) (y := 6) (lo := 1) (hi := 6) (steps := 8) (show SidesAt K4 from ext_at (xG.trans xJ4) hsd) hC (by omega) dir9
  rw [hun] at hunr
  have f1 : fillA [.int .i64 0,.int .i64 0] [(0,1,.int .i64 6),(1,1,.int .i64 6)] = some [.int .i64 6,.int .i64 6] := rfl
  have f2 : fillA [.int .i64 0,.int .i64 0] [(0,1,.int .i64 1),(1,1,.int .i64 6)] = some [.int .i64 1,.int .i64 6] := rfl
  have f3 : fillA [.int .i64 0,.int .i64 0,.int .i64 0,.int .i64 0,.int .i64 0] [(0,2,.agg ⟨[.int .i64 6,.int .i64 6]⟩),(2,2,.agg ⟨[.int .i64 1,.int .i64 6]⟩),(4,1,.int .i64 8)] = some [.int .i64 6,.int .i64 6,.int .i64 1,.int .i64 6,.int .i64 8] := rfl
  (repeat(first|refine yw ?_|((first|apply yd|apply ye);simp (disch:=first|exact zz|fail) only[go_sem,f1,f2,f3];with_reducible rfl)))
  refine aops_call_to hunr ?_
  obtain ⟨us2,hSt⟩ := ret_lists (H := K4) (ll := discS R L crack)
  obtain ⟨sa,sn,sc,hsv⟩ := (OwnL.ret (H0 := K4) (H := K4) (ll := discS R L crack) (Nat.le_refl _)).shape
  have x2 : Ext K4 (K4 ++ retLN K4 (discS R L crack)) := (Ext.refl K4).app _
  rw [hsv] at hSt ⊢
  generalize K4 ++ retLN K4 (discS R L crack) = K5 at hSt x2
  have xJ5 := xJ4.trans x2
  have l9' := disc_9 hrl (xJ5.cell g0)
  have hst5 : storeR 2 (.pointer (some ⟨K5.length,0,none⟩)) (.agg ⟨[.slice sa sn sc,.int .i64 bend]⟩) (K5 ++ [.cells true 0 [.slice none 0 0,.int .i64 0]]) = some (undef,K5 ++ [.cells true 0 [.slice sa sn sc,.int .i64 bend]]) := store_newT (isAtom_slice ..)
  (repeat(first|refine yw ?_|((first|apply yd|apply ye);simp (disch:=first|exact zz|fail) only[go_sem,l9',fillA_slice,hst5];with_reducible rfl)))
  obtain ⟨K6,hK6⟩ : ∃ K6,K6 = K5 ++ [AObj.cells true 0 [.slice sa sn sc,.int .i64 bend]] := ⟨_,rfl⟩
  obtain ⟨i12,h12⟩ : ∃ i12,i12 = K5.length := ⟨_,rfl⟩
  have g12 : K6[i12]? = some (.cells true 0 [.slice sa sn sc,.int .i64 bend]) := by rw [hK6,h12]; exact at_new
  have x6 : Ext K5 K6 := by rw [hK6]; exact (Ext.refl K5).app _
  rw [← hK6,← h12]
  clear hK6 h12
  have xJ6 := xJ5.trans x6
  have hS6 := hSt.ext x6
  have sl := disc_len (R := R) (L := L) (crack := crack)
  have e8 : ((discS R L crack).length : Int) = 8 := by rw [sl]; rfl
  have sr : ∀ i,i < (discS R L crack).length → ((discS R L crack).getD i []).length ≤ 1000000 := fun i hi => by rw [sl] at hi; rw [disc_width hi]; omega
  have sr9 : ∀ i,i < (discS R L crack).length → ((discS R L crack).getD i []).length ≤ 1000000000 := fun i hi => by have := sr i hi; omega
  have ht := disc_task hD
  have n2 : ∀ {G : AHeap} {id : Nat} {a b : Value},G[id]? = some (.cells true 0 [a,b]) → loadNR 2 (.pointer (some ⟨id,0,none⟩)) G = some (.agg ⟨[a,b]⟩,G) := fun h => loadN_at h (by simp)
  have htk := taskErr_c (bend := bend) hS6 (by omega) sr9
  rw [ht] at htk
  (repeat(first|refine yw ?_|((first|apply yd|apply ye);simp (disch:=first|exact zz|fail) only[go_sem,hS6.len,hS6.idx,hS6.load,e8,n2 g12];with_reducible rfl)))
  refine aops_call_to htk ?_
  (refine yg ?_)
  refine cond_f rfl ?_
  obtain ⟨hg,hbe⟩ := taskErr_ok ht
  obtain ⟨k0',k1,k2,k3⟩ := best_law hg hbe
  obtain ⟨r1,r2,r3⟩ := prices_ok hg hbe
  have r4 : pricesErrL (discS R L crack) bend (pricesP (discS R L crack) bend) = 0 := by unfold pricesErrL; rw [if_pos pricesP_len,if_pos r1,if_pos r2]
  have r5 : priceErrA (discS R L crack) bend (pricesP (discS R L crack) bend) = 0 := by unfold priceErrA; rw [if_pos ht,r4]
  have rl' : ∀ i,i < (pricesP (discS R L crack) bend).length → ((pricesP (discS R L crack) bend).getD i []).length = ((discS R L crack).getD 0 []).length := fun i hi => by
    rw [pricesP_len] at hi
    rw [pricesP_getD hi,priceR_len]
  have rn := pricesP_len (ll := discS R L crack) (bend := bend)
  obtain ⟨bl,bp,bf⟩ := follows hD
  have w0 := disc_width (R := R) (L := L) (crack := crack) (k := 0) (by decide)
  (repeat(first|refine yw ?_|((first|apply yd|apply ye);simp (disch:=first|exact zz|fail) only[go_sem,n2 g12];with_reducible rfl)))
  refine aops_call_to (copyTask_c hS6 (by omega) sr) ?_
  obtain ⟨us3,hC1⟩ := ret_lists (H := K6) (ll := discS R L crack)
  have y1 : Ext K6 (K6 ++ retLN K6 (discS R L crack)) := (Ext.refl K6).app _
  generalize K6 ++ retLN K6 (discS R L crack) = G1 at hC1 y1
  (refine yg ?_)
  refine aops_call_to (bestPath_c (bend := bend) (hbig.trans (xG.trans (xJ6.trans y1))) hC1 (by omega) sr9) ?_
  have hB : Ints (G1 ++ retN 1 (bestP (discS R L crack) bend).1.length ((bestP (discS R L crack) bend).1.map (.int .i64))) (bestP (discS R L crack) bend).1 (retV G1 (bestP (discS R L crack) bend).1.length) := Ints.ret
  have y2 : Ext K6 (G1 ++ retN 1 (bestP (discS R L crack) bend).1.length ((bestP (discS R L crack) bend).1.map (.int .i64))) := y1.app _
  generalize (G1 ++ retN 1 (bestP (discS R L crack) bend).1.length ((bestP (discS R L crack) bend).1.map (.int .i64)) : AHeap) = G2 at hB y2
  generalize retV G1 (bestP (discS R L crack) bend).1.length = bv at hB
  rw [k0']
  (repeat(first|refine yw ?_|((first|apply yd|apply ye);simp (disch:=first|exact zz|fail) only[go_sem,n2 (y2.cell g12)];with_reducible rfl)))
  refine aops_call_to (copyTask_c (hS6.ext y2) (by omega) sr) ?_
  obtain ⟨us4,hC3⟩ := ret_lists (H := G2) (ll := discS R L crack)
  have y3 : Ext G2 (G2 ++ retLN G2 (discS R L crack)) := (Ext.refl G2).app _
  generalize G2 ++ retLN G2 (discS R L crack) = G3 at hC3 y3
  (refine yg ?_)
  refine aops_call_to (prices_c (bend := bend) hC3 ht) ?_
  obtain ⟨ps,hP⟩ := ret_lists (H := G3) (ll := pricesP (discS R L crack) bend)
  have y4 : Ext G2 (G3 ++ retLN G3 (pricesP (discS R L crack) bend)) := y3.app _
  generalize G3 ++ retLN G3 (pricesP (discS R L crack) bend) = G4 at hP y4
  generalize retLV G3 (pricesP (discS R L crack) bend) = pv at hP
  have y24 := y2.trans y4
  have hB4 := hB.ext y4
  have hL4 := hS6.ext y24
  (repeat(first|refine yw ?_|((first|apply yd|apply ye);simp (disch:=first|exact zz|fail) only[go_sem,n2 (y24.cell g12)];with_reducible rfl)))
  refine aops_call_to (refPathErr_c hL4 hB4 (by omega) (by omega) (by omega)) ?_
  rw [k1]
  (refine yg ?_)
  refine cond_f rfl ?_
  (repeat(first|refine yw ?_|((first|apply yd|apply ye);simp (disch:=first|exact zz|fail) only[go_sem,n2 (y24.cell g12)];with_reducible rfl)))
  refine aops_call_to (copyTask_c hL4 (by omega) sr) ?_
  obtain ⟨us5,hC5⟩ := ret_lists (H := G4) (ll := discS R L crack)
  have y5 : Ext G4 (G4 ++ retLN G4 (discS R L crack)) := (Ext.refl G4).app _
  generalize G4 ++ retLN G4 (discS R L crack) = G5 at hC5 y5
  (refine yg ?_)
  refine aops_call_to (copyListsE_c (hP.ext y5) (by omega) (fun i hi => by rw [rl' i hi]; omega)) ?_
  obtain ⟨ps2,hP6⟩ := ret_lists (H := G5) (ll := pricesP (discS R L crack) bend)
  have y56 : Ext G5 (G5 ++ retLN G5 (pricesP (discS R L crack) bend)) := (Ext.refl G5).app _
  generalize G5 ++ retLN G5 (pricesP (discS R L crack) bend) = G6 at hP6 y56
  generalize retLV G5 (pricesP (discS R L crack) bend) = pv2 at hP6
  (refine yg ?_)
  refine aops_call_to (checkPrices_c (bend := bend) (hC5.ext y56) hP6 (by omega) sr9 (by omega) (fun i hi => by rw [rl' i hi]; omega)) ?_
  rw [r5,if_pos rfl,r3]
  have y26 := y24.trans (y5.trans y56)
  have hB6 := hB4.ext (y5.trans y56)
  have hL6 := hS6.ext y26
  (refine yg ?_)
  refine cond_f rfl ?_
  have zg0 := (xJ6.trans y26).cell g0
  have zg12 := y26.cell g12
  have z10 := disc_10 hrl zg0
  have hbig6 := hbig.trans (xG.trans (xJ6.trans y26))
  have hs6 := hs.ext (xG.trans (xJ6.trans y26))
  (refine yg ?_)
  refine awp_loop_n [false,true,false,false,false,false,false,false,false,false,false,false,true,true,false,false,false,false,false,false,true,false,false,false,false,false,false,false,false,false,false,false,false,false,false,false,false,false,false,false,false,false,false,false,false,false,false,false,false,false,false,false,false,false,false,false,false,false,false,false,false,false,false,false,false,false,false,false,false,false,false,false,false,false,false,false,false,false,false,false,false,false,false,false,false,false,false,false,false,false,false,false,false,false,false,false,false,false,false,false,false,false,false,false,false,false,false,false,false,false,false,false,false,false,false,false,false,false,false,false,false,false,false,false,false,false,false,false,false,false,false,false,false,false,false,false,false,false,false,false,false,false,false,false,false,false,false,false,false,false,false,false,false,false,false,false,false,false,false,false,false,false,false,false,false,false,false,false,false,false,false,false,false,false,false,false,false,false,false,false,false,false,false,false,false,false,false,false,false,false,false,false,false,false,false,false,false,false,false,false,false,false,false,false,false,false,false,false,false,false,false,false,false,false,false,false,false,false,false,false,false,false,false,false,false,false,false,false,false,false,false,false,false,false,false,false,false,false,false,false,false,false,false,false,false,false,false,false,false,false,false,false,false,false,false,false,false,false,false,false,false,false,false,false,false,false,false,false,false,false,false,false,false,false,false,false,false,false,false,false,false,false,false,false,false,false,false,false,false,false,false,false,false,false,false,false,false,false,false,false,false,false,false,false,false,false,false,false,false,false,false,false,false,false,false,false,false,false,false,false,false,false,false,false,false,false,false,false,false,false,false,false,false,false,false,false,false,false,false,false,false,false,false,false] 8 (fun i e M => e = [junk,.pointer (some ⟨H.length,0,none⟩),junk,junk,junk,junk,junk,junk,junk,junk,junk,junk,.pointer (some ⟨i12,0,none⟩),bv,junk,junk,junk,junk,junk,junk,.int .i64 i,junk,junk,junk,junk,junk,junk,junk,junk,junk,junk,junk,junk,junk,junk,junk,junk,junk,junk,junk,junk,junk,junk,junk,junk,junk,junk,junk,junk,junk,junk,junk,junk,junk,junk,junk,junk,junk,junk,junk,junk,junk,junk,junk,junk,junk,junk,junk,junk,junk,junk,junk,junk,junk,junk,junk,junk,junk,junk,junk,junk,junk,junk,junk,junk,junk,junk,junk,junk,junk,junk,junk,junk,junk,junk,junk,junk,junk,junk,junk,junk,junk,junk,junk,junk,junk,junk,junk,junk,junk,junk,junk,junk,junk,junk,junk,junk,junk,junk,junk,junk,junk,junk,junk,junk,junk,junk,junk,junk,junk,junk,junk,junk,junk,junk,junk,junk,junk,junk,junk,junk,junk,junk,junk,junk,junk,junk,junk,junk,junk,junk,junk,junk,junk,junk,junk,junk,junk,junk,junk,junk,junk,junk,junk,junk,junk,junk,junk,junk,junk,junk,junk,junk,junk,junk,junk,junk,junk,junk,junk,junk,junk,junk,junk,junk,junk,junk,junk,junk,junk,junk,junk,junk,junk,junk,junk,junk,junk,junk,junk,junk,junk,junk,junk,junk,junk,junk,junk,junk,junk,junk,junk,junk,junk,junk,junk,junk,junk,junk,junk,junk,junk,junk,junk,junk,junk,junk,junk,junk,junk,junk,junk,junk,junk,junk,junk,junk,junk,junk,junk,junk,junk,junk,junk,junk,junk,junk,junk,junk,junk,junk,junk,junk,junk,junk,junk,junk,junk,junk,junk,junk,junk,junk,junk,junk,junk,junk,junk,junk,junk,junk,junk,junk,junk,junk,junk,junk,junk,junk,junk,junk,junk,junk,junk,junk,junk,junk,junk,junk,junk,junk,junk,junk,junk,junk,junk,junk,junk,junk,junk,junk,junk,junk,junk,junk,junk,junk,junk,junk,junk,junk,junk,junk,junk,junk,junk,junk,junk,junk,junk,junk,junk,junk,junk,junk,junk,junk,junk,junk,junk,junk,junk,junk,junk,junk,junk,junk,junk,junk,junk,junk,junk,junk,junk] ∧ G6 = M) ?_ ?_
  · exact ⟨by simp [forget],rfl⟩
  rintro j e M hj ⟨rfl,rfl⟩
  (refine yg ?_)
  refine cond_p rfl (fun hlt => ?_) (fun hge => ?_)
  · have j8 : j < 8 := by omega
    by_cases hc : (j : Int) = crack
    · (repeat(first|refine yw ?_|((first|apply yd|apply ye);simp (disch:=first|exact zz|fail) only[go_sem,z10,dec_f (show ¬ (j : Int) ≠ crack from fun h => h hc)];with_reducible rfl)))
      refine cond_f rfl ?_
      (refine yg ?_)
      exact ⟨by omega,by simp [forget],rfl⟩
    · have lj := disc_r (L := L) (bend := bend) (crack := crack) hrl zg0 j8
      rw [hRk j j8] at lj
      have aj := idxA8 (id := H.length) (J := G6) j8
      have hbj := bf j j8 hc
      have hr := hD.ring j j8
      (repeat(first|refine yw ?_|((first|apply yd|apply ye);simp (disch:=first|exact zz|fail) only[go_sem,hB6.len,hB6.idx,hB6.load,z10,dec_t (show (j : Int) ≠ crack from hc),aj,lj,hbj,dec_f (show ¬ (R j : Int) - 1 ≠ (R j : Int) - 1 from fun h => h rfl)];with_reducible rfl)))
      refine cond_f rfl ?_
      (refine yg ?_)
      exact ⟨by omega,by simp [forget],rfl⟩
  obtain rfl : j = 8 := by omega
  obtain ⟨CR,hCR⟩ : ∃ CR : List (Int × Int),CR = if 0 ≤ crack ∧ crack < ((8 : Nat) : Int) then [(crack,crack)] else [] := ⟨_,rfl⟩
  have ck0 : crackErrL (discS R L crack) bend (bestP (discS R L crack) bend).1 0 = 0 := by
    unfold crackErrL
    rw [show openErrL (discS R L crack) bend (bestP (discS R L crack) bend).1 = 0 by unfold openErrL; rw [if_pos ht]; exact k1,if_pos rfl,if_pos (by omega)]
  have ck1 : cracksTo (discS R L crack) (bestP (discS R L crack) bend).1 0 (bestP (discS R L crack) bend).1.length = CR := by rw [bl,hCR]; exact disc_cracks hD bp bf 8 (Nat.le_refl _)
  obtain ⟨bb,hb1,hb2,hb3,hb4⟩ := disc_bridged hD bl bp
  rw [← hCR] at hb1
  have hcl : CR.length ≤ 1 := by rw [hCR]; split <;> simp
  (repeat(first|refine yw ?_|((first|apply yd|apply ye);simp (disch:=first|exact zz|fail) only[go_sem,n2 zg12];with_reducible rfl)))
  refine aops_call_to (copyTask_c hL6 (by omega) sr) ?_
  obtain ⟨us6,hC7⟩ := ret_lists (H := G6) (ll := discS R L crack)
  have z7 : Ext G6 (G6 ++ retLN G6 (discS R L crack)) := (Ext.refl G6).app _
  generalize G6 ++ retLN G6 (discS R L crack) = G7 at hC7 z7
  (refine yg ?_)
  refine aops_call ((copyInts_u (hB6.ext z7) (by omega)).mono fun c1v G8 ⟨hO8,z78⟩ => ?_)
  have hcr := cracks_c (bend := bend) (limit := 0) (hC7.ext z78) hO8 (by omega) sr9
  rw [ck0,if_pos rfl,ck1] at hcr
  (refine yg ?_)
  refine aops_call (hcr.mono fun u9 G9 hu9 => ?_)
  obtain ⟨crv,rfl,pC,z9⟩ : ∃ s,u9 = .tuple #[s,.int .i64 0] ∧ Pairs G9 CR s ∧ Ext G8 G9 := by
    obtain ⟨e1,e2⟩ := hu9
    exact ⟨_,e1,by rw [e2]; exact Pairs.ret,by rw [e2]; exact (Ext.refl G8).app _⟩
  clear hu9
  have z69 := z7.trans (z78.trans z9)
  have w10 := disc_10 hrl (z69.cell zg0)
  (refine yg ?_)
  refine aops_mid [false,true,false,false,false,false,false,false,false,false,false,false,true,true,false,false,false,false,false,false,false,true,false,false,false,false,false,false,false,false,false,false,false,false,false,false,false,false,false,false,false,false,false,false,false,false,false,false,false,false,false,false,false,false,false,false,false,false,false,false,false,false,false,false,false,false,false,false,false,false,false,false,false,false,false,false,false,false,false,false,false,false,false,false,false,false,false,false,false,false,false,false,false,false,false,false,false,false,false,false,false,false,false,false,false,false,false,false,false,false,false,false,false,false,false,false,false,false,false,false,false,false,false,false,false,false,false,false,false,false,false,false,false,false,false,false,false,false,false,false,false,false,false,false,false,false,false,false,false,false,false,false,false,false,false,false,false,false,false,false,false,false,false,false,false,false,false,false,false,false,false,false,false,false,false,false,false,false,false,false,false,false,false,false,false,false,false,false,false,false,false,false,false,false,false,false,false,false,false,false,false,false,false,false,false,false,false,false,false,false,false,false,false,false,false,false,false,false,false,false,false,false,false,false,false,false,false,false,false,false,false,false,false,false,false,false,false,false,false,false,false,false,false,false,false,false,false,false,false,false,false,false,false,false,false,false,false,false,true,false,false,false,false,false,false,false,false,false,false,false,false,false,false,false,false,false,false,false,false,false,false,false,false,false,false,false,false,false,false,false,false,false,false,false,false,false,false,false,false,false,false,false,false,false,false,false,false,false,false,false,false,false,false,false,false,false,false,false,false,false,false,false,false,false,false,false,false,false,false,false,false,false,false,false,false,false,false,false,false,false,false,false,false,false] (fun e M => ∃ M0,Ext G9 M ∧ M0 = M ∧ e = [junk,.pointer (some ⟨H.length,0,none⟩),junk,junk,junk,junk,junk,junk,junk,junk,junk,junk,.pointer (some ⟨i12,0,none⟩),bv,junk,junk,junk,junk,junk,junk,junk,crv,junk,junk,junk,junk,junk,junk,junk,junk,junk,junk,junk,junk,junk,junk,junk,junk,junk,junk,junk,junk,junk,junk,junk,junk,junk,junk,junk,junk,junk,junk,junk,junk,junk,junk,junk,junk,junk,junk,junk,junk,junk,junk,junk,junk,junk,junk,junk,junk,junk,junk,junk,junk,junk,junk,junk,junk,junk,junk,junk,junk,junk,junk,junk,junk,junk,junk,junk,junk,junk,junk,junk,junk,junk,junk,junk,junk,junk,junk,junk,junk,junk,junk,junk,junk,junk,junk,junk,junk,junk,junk,junk,junk,junk,junk,junk,junk,junk,junk,junk,junk,junk,junk,junk,junk,junk,junk,junk,junk,junk,junk,junk,junk,junk,junk,junk,junk,junk,junk,junk,junk,junk,junk,junk,junk,junk,junk,junk,junk,junk,junk,junk,junk,junk,junk,junk,junk,junk,junk,junk,junk,junk,junk,junk,junk,junk,junk,junk,junk,junk,junk,junk,junk,junk,junk,junk,junk,junk,junk,junk,junk,junk,junk,junk,junk,junk,junk,junk,junk,junk,junk,junk,junk,junk,junk,junk,junk,junk,junk,junk,junk,junk,junk,junk,junk,junk,junk,junk,junk,junk,junk,junk,junk,junk,junk,junk,junk,junk,junk,junk,junk,junk,junk,junk,junk,junk,junk,junk,junk,junk,junk,junk,junk,junk,junk,junk,junk,junk,junk,junk,junk,junk,junk,junk,junk,junk,junk,junk,junk,junk,junk,junk,junk,junk,junk,junk,junk,.bool false,junk,junk,junk,junk,junk,junk,junk,junk,junk,junk,junk,junk,junk,junk,junk,junk,junk,junk,junk,junk,junk,junk,junk,junk,junk,junk,junk,junk,junk,junk,junk,junk,junk,junk,junk,junk,junk,junk,junk,junk,junk,junk,junk,junk,junk,junk,junk,junk,junk,junk,junk,junk,junk,junk,junk,junk,junk,junk,junk,junk,junk,junk,junk,junk,junk,junk,junk,junk,junk,junk,junk,junk,junk,junk,junk,junk,junk,junk,junk,junk,junk,junk,junk,junk,junk]) ?_ ?_
  · by_cases hn : crack < 0
    · have hCRn : CR = [] := by rw [hCR,if_neg (by omega)]
      have hle : (CR.length : Int) = 0 := by rw [hCRn]; rfl
      (repeat(first|refine yw ?_|((first|apply yd|apply ye);simp (disch:=first|exact zz|fail) only[go_sem,pC.len,pC.idx,pC.load,w10,hle,dec_t hn,dec_f (show ¬ 0 ≤ crack by omega)];with_reducible rfl)))
      exact ⟨_,Ext.refl _,rfl,by simp [forget]⟩
    · have hCRp : CR = [(crack,crack)] := by rw [hCR,if_pos (by omega)]
      have f4 : fillA [.int .i64 0,.int .i64 0] [(0,1,.int .i64 crack),(1,1,.int .i64 crack)] = some [.int .i64 crack,.int .i64 crack] := rfl
      have f5 : fillA [.int .i64 0,.int .i64 0] [(0,2,.agg ⟨[.int .i64 crack,.int .i64 crack]⟩)] = some [.int .i64 crack,.int .i64 crack] := rfl
      (repeat(first|refine yw ?_|((first|apply yd|apply ye);simp (disch:=first|exact zz|fail) only[go_sem,pC.len,pC.idx,pC.load,w10,dec_f (show ¬ crack < 0 from hn),dec_t (show 0 ≤ crack by omega),f4,f5];with_reducible rfl)))
      have hN : Pairs (G9 ++ [AObj.cells true 2 (flatP [(crack,crack)])]) [(crack,crack)] (.slice (some ⟨G9.length,0,none⟩) 1 1) := Pairs.last (l := [(crack,crack)]) 1
      refine aops_call_to (ranges_c (pC.ext ((Ext.refl G9).app _)) hN (by omega)) ?_
      rw [dec_t (show CR = [(crack,crack)] from hCRp)]
      (refine yg ?_)
      exact ⟨_,(Ext.refl G9).app _,rfl,by simp [forget]⟩
  rintro e M ⟨M0,xM,-,rfl⟩
  (refine yg ?_)
  refine cond_f rfl ?_
  (refine yg ?_)
  have zM := z69.trans xM
  refine aops_call ((copyInts_u (hB6.ext zM) (by omega)).mono fun d1v D1 ⟨hD1,zD1⟩ => ?_)
  obtain ⟨av,D2,ha,hx2,aid,rfl,haid,hc2⟩ := append_copy (bytes := 16) (pC.ext (xM.trans zD1)) (isAtom_flatP CR) (roomOk_of (by omega) (by omega))
  have hms : mkSliceL 2 0 (some []) D1 = some (.slice (some ⟨D1.length,0,none⟩) 0 0,D1 ++ [.cells true 2 []]) := rfl
  (repeat(first|refine yw ?_|((first|apply yd|apply ye);simp (disch:=first|exact zz|fail) only[go_sem,hms,ha];with_reducible rfl)))
  have hsp : Pairs D2 CR (.slice (some ⟨aid,0,none⟩) CR.length CR.length) := Sl.of hc2 (by simp [flatP_len])
  have hbr := bridged_c (hD1.ext hx2) hsp (by omega) (by omega)
  rw [hb1] at hbr
  refine aops_call (hbr.mono fun u10 D3 ⟨bs3,hu10,hBB,zD3⟩ => ?_)
  subst hu10
  have hBB : Ints D3 bb bs3 := hBB
  have z6D := zM.trans (zD1.trans (hx2.trans zD3))
  have hbl : (bb.length : Int) = 8 := by omega
  (repeat(first|refine yw ?_|((first|apply yd|apply ye);simp (disch:=first|exact zz|fail) only[go_sem,hBB.len,hBB.idx,hBB.load,hbl];with_reducible rfl)))
  have hpe := refPositionsErr_c hBB (by omega)
  rw [hb4] at hpe
  refine aops_call_to hpe ?_
  (refine yg ?_)
  refine cond_f rfl ?_
  have v0 := z6D.cell zg0
  have v10 := disc_10 hrl v0
  (refine yg ?_)
  refine awp_loop_n [false,true,false,false,false,false,false,false,false,false,false,false,false,false,false,false,false,false,false,false,false,false,false,true,false,true,false,false,false,false,false,false,false,false,false,false,false,false,false,false,false,false,false,false,false,false,false,false,false,false,false,false,false,false,false,false,false,false,false,false,false,false,false,false,false,false,false,false,false,false,false,false,false,false,false,false,false,false,false,false,false,false,false,false,false,false,false,false,false,false,false,false,false,false,false,false,false,false,false,false,false,false,false,false,false,false,false,false,false,false,false,false,false,false,false,false,false,false,false,false,false,false,false,false,false,false,false,false,false,false,false,false,false,false,false,false,false,false,false,false,false,false,false,false,false,false,false,false,false,false,false,false,false,false,false,false,false,false,false,false,false,false,false,false,false,false,false,false,false,false,false,false,false,false,false,false,false,false,false,false,false,false,false,false,false,false,false,false,false,false,false,false,false,false,false,false,false,false,false,false,false,false,false,false,false,false,false,false,false,false,false,false,false,false,false,false,false,false,false,false,false,false,false,false,false,false,false,false,false,false,false,false,false,false,false,false,false,false,false,false,false,false,false,false,false,false,false,false,false,false,false,false,false,false,false,false,false,false,false,false,false,false,false,false,false,false,false,false,false,false,false,false,false,false,false,false,false,false,false,false,false,false,false,false,false,false,false,false,false,false,false,false,false,false,false,false,false,false,false,false,false,false,false,false,false,false,false,false,false,false,false,false,false,false,false,false,false,false,false,false,false,false,false,false,false,false,false,false,false,false,false,false,false,false,false,false,false,false,false,false,false,false,false,false] 8 (fun i e M => e = [junk,.pointer (some ⟨H.length,0,none⟩),junk,junk,junk,junk,junk,junk,junk,junk,junk,junk,junk,junk,junk,junk,junk,junk,junk,junk,junk,junk,junk,bs3,junk,.int .i64 i,junk,junk,junk,junk,junk,junk,junk,junk,junk,junk,junk,junk,junk,junk,junk,junk,junk,junk,junk,junk,junk,junk,junk,junk,junk,junk,junk,junk,junk,junk,junk,junk,junk,junk,junk,junk,junk,junk,junk,junk,junk,junk,junk,junk,junk,junk,junk,junk,junk,junk,junk,junk,junk,junk,junk,junk,junk,junk,junk,junk,junk,junk,junk,junk,junk,junk,junk,junk,junk,junk,junk,junk,junk,junk,junk,junk,junk,junk,junk,junk,junk,junk,junk,junk,junk,junk,junk,junk,junk,junk,junk,junk,junk,junk,junk,junk,junk,junk,junk,junk,junk,junk,junk,junk,junk,junk,junk,junk,junk,junk,junk,junk,junk,junk,junk,junk,junk,junk,junk,junk,junk,junk,junk,junk,junk,junk,junk,junk,junk,junk,junk,junk,junk,junk,junk,junk,junk,junk,junk,junk,junk,junk,junk,junk,junk,junk,junk,junk,junk,junk,junk,junk,junk,junk,junk,junk,junk,junk,junk,junk,junk,junk,junk,junk,junk,junk,junk,junk,junk,junk,junk,junk,junk,junk,junk,junk,junk,junk,junk,junk,junk,junk,junk,junk,junk,junk,junk,junk,junk,junk,junk,junk,junk,junk,junk,junk,junk,junk,junk,junk,junk,junk,junk,junk,junk,junk,junk,junk,junk,junk,junk,junk,junk,junk,junk,junk,junk,junk,junk,junk,junk,junk,junk,junk,junk,junk,junk,junk,junk,junk,junk,junk,junk,junk,junk,junk,junk,junk,junk,junk,junk,junk,junk,junk,junk,junk,junk,junk,junk,junk,junk,junk,junk,junk,junk,junk,junk,junk,junk,junk,junk,junk,junk,junk,junk,junk,junk,junk,junk,junk,junk,junk,junk,junk,junk,junk,junk,junk,junk,junk,junk,junk,junk,junk,junk,junk,junk,junk,junk,junk,junk,junk,junk,junk,junk,junk,junk,junk,junk,junk,junk,junk,junk,junk,junk,junk,junk,junk,junk,junk,junk,junk,junk,junk,junk,junk,junk,junk] ∧ D3 = M) ?_ ?_
  · exact ⟨by simp [forget],rfl⟩
  rintro j e M hj ⟨rfl,rfl⟩
  (refine yg ?_)
  refine cond_p rfl (fun hlt => ?_) (fun hge => ?_)
  · have j8 : j < 8 := by omega
    by_cases hc : (j : Int) = crack
    · (repeat(first|refine yw ?_|((first|apply yd|apply ye);simp (disch:=first|exact zz|fail) only[go_sem,v10,dec_f (show ¬ (j : Int) ≠ crack from fun h => h hc)];with_reducible rfl)))
      refine cond_f rfl ?_
      (refine yg ?_)
      exact ⟨by omega,by simp [forget],rfl⟩
    · have lj := disc_r (L := L) (bend := bend) (crack := crack) hrl v0 j8
      rw [hRk j j8] at lj
      have aj := idxA8 (id := H.length) (J := D3) j8
      have hbj := (hb3 j j8 hc).trans (bf j j8 hc)
      have hr := hD.ring j j8
      (repeat(first|refine yw ?_|((first|apply yd|apply ye);simp (disch:=first|exact zz|fail) only[go_sem,hBB.len,hBB.idx,hBB.load,v10,dec_t (show (j : Int) ≠ crack from hc),aj,lj,hbj,dec_f (show ¬ (R j : Int) - 1 ≠ (R j : Int) - 1 from fun h => h rfl)];with_reducible rfl)))
      refine cond_f rfl ?_
      (refine yg ?_)
      exact ⟨by omega,by simp [forget],rfl⟩
  obtain rfl : j = 8 := by omega
  have hbn : bb ≠ [] := by rintro rfl; simp at hb2
  have hinw : InW bb := fun n hn => by
    obtain ⟨k,hk,ek⟩ := List.getElem_of_mem hn
    have := (sized_pos hb4).1 k
    rw [List.getD_eq_getElem?_getD,List.getElem?_eq_getElem hk,ek] at this
    exact ⟨by have := this.1; simp at this; omega,by have := this.2; simp at this; omega⟩
  have evl : velL bb = (velGo bb,0) := by simp [velL,hb4,hbn]
  have hvl : ((velGo bb).length : Int) = 7 := by rw [velGo_len]; omega
  (refine yg ?_)
  refine aops_call ((copyInts_u hBB (by omega)).mono fun e1v E1 ⟨hE1,xE1⟩ => ?_)
  (refine yg ?_)
  refine aops_call ((velocities_c hE1 (by omega)).mono fun u11 E2 h => ?_)
  obtain ⟨sv,rfl,iv,xE2⟩ := h.use
  rw [evl] at iv ⊢
  replace iv : Ints E2 (velGo bb) sv := iv
  have hBE := hBB.ext (xE1.trans xE2)
  (repeat(first|refine yw ?_|((first|apply yd|apply ye);simp (disch:=first|exact zz|fail) only[go_sem,iv.len,iv.idx,iv.load,hvl];with_reducible rfl)))
  refine cond_f rfl ?_
  (repeat(first|refine yw ?_|((first|apply yd|apply ye);simp (disch:=first|exact zz|fail) only[go_sem,hBE.len,hBE.idx,hBE.load,show (0 : Int).toNat = 0 from rfl];with_reducible rfl)))
  refine aops_call ((positions_c iv (by omega)).mono fun u12 E3 h => ?_)
  obtain ⟨sp,rfl,ip,xE3⟩ := h.use
  rw [positionsL_back hb4 hbn] at ip ⊢
  replace ip : Ints E3 bb sp := ip
  have xD3 := xE1.trans (xE2.trans xE3)
  (refine yg ?_)
  refine aops_call ((copyInts_u (hBB.ext xD3) (by omega)).mono fun e4v E4 ⟨hE4,xE4⟩ => ?_)
  have hs4 := hs6.ext (z6D.trans (xD3.trans xE4))
  (refine yg ?_)
  (refine aops_call_to (formatPath_c hs4 hE4 (by omega) hinw) ?_)
  have hpl := pathT_length hinw
  (refine yg ?_)
  refine aops_call ((parsePath_c hs4 (l := pathT bb) (by omega)).mono fun u13 E5 h => ?_)
  obtain ⟨sw,rfl,iw,xE5⟩ := h.use
  rw [parse_path hb4] at iw ⊢
  replace iw : Ints E5 bb sw := iw
  have hB5 := hBB.ext (xD3.trans (xE4.trans xE5))
  (refine yg ?_)
  (refine aops_call_to (bints_c (ip.ext (xE4.trans xE5)) hB5 (by omega) (by omega)) ?_)
  (refine yg ?_)
  (refine aops_call_to (bints_c iw hB5 (by omega) (by omega)) ?_)
  (refine yg ?_)
  exact fin_1 rfl
end Go.Lq

namespace Go.Lq
open Go Go.ChangeShapes Go.WideShapes Go.ChangeAt Go.RowKit
open Go.Proofs
set_option maxRecDepth 100000 in
theorem lifted3 (os : Os) (started : os.Started) (X : Type) (enc : TypeId × Value → X) :
    ReturnsInHanded {} Tryz.checked os 3 .any (fun w args => (YtpgemmklfaedfabGreatDoor.Rows.topGrooveFollowedSpec.pre enc Tryz.prog Tryz.f3 [] false w args ∧ laidMetH Tryz.prog laidAll w) ∧ sizedMet enc Tryz.prog Tryz.f3 (OpenSpec.ofChange YtpgemmklfaedfabGreatDoor.Rows.topGrooveFollowedSpec) false w args)
      (YtpgemmklfaedfabGreatDoor.Rows.topGrooveFollowedSpec.post enc Tryz.prog Tryz.f3 false true false false) := by
  refine returnsInHanded_of_change_shaped (C := Tryz.checked) (X := fun w _ => laidMetH Tryz.prog laidAll w) (fun _ _ _ hh h => h.of_heap hh) own_knob started (by kernel_rfl) Tryz.func3
    (ChangeSpec.witness_shaped (enc := enc) (C := Tryz.checked) (os := os) (X := fun w _ => laidMetH Tryz.prog laidAll w) false (World.laidAll Tryz.prog os laidAll) #[.agg #[.int .i64 0,.int .i64 0,.int .i64 0,.int .i64 0,.int .i64 0,.int .i64 0,.int .i64 0,.int .i64 0,.int .i64 0,.int .i64 0,.int .i64 0]] 12 (World.laidAll_os _ _ _) (door_shaped os _) (by kernel_rfl) (by kernel_rfl) (by kernel_rfl) (door_met os _)) ?_
  intro W base args ds gs before hsh hval hW hL
  have hWw := hW
  obtain ⟨p,q,hA,_⟩ := hW
  obtain ⟨m0,t0,u0,hLd⟩ := of_laid hL hsh
  refine (calls_of_law (d := 20) hLd globs glob_at hA (fun j t v h1 h2 => hval j t v (by simpa using h1) (by simpa using h2)) (by kernel_rfl) fun H avs hx h => ?_).mono fun e W' ⟨he,hB⟩ => ?_
  · exact law3 (strH hx) (by rw [show Tryz.f3.params = #[24] from Tryz.params3] at h; exact h)
  · subst he
    exact ⟨_,rfl,law_post (bt := 4) laid_out rfl Tryz.underlying4 (by kernel_rfl) (by kernel_rfl) hWw (fun ds hd => by
      rw [show Tryz.f3.params = #[24] from Tryz.params3] at hd
      match ds,hd with
      | [a],_ => rfl) hB⟩
theorem unf3 : Tryz.prog.unfollowed 3 = true := by kernel_rfl
theorem rec3 : Tryz.prog.recurses 3 = true := by kernel_rfl
theorem named3 : Tryz.prog.varsNamed 3 = YtpgemmklfaedfabGreatDoor.Rows.topGrooveFollowedRow.named := by kernel_rfl
theorem facts3 : joinedFacts Tryz.prog 3 Tryz.f3 YtpgemmklfaedfabGreatDoor.Rows.topGrooveFollowedSpec YtpgemmklfaedfabGreatDoor.Rows.topGrooveFollowedRow = true := by
  unfold joinedFacts
  rw [may_enter,stops_heard,maps_rowed,laid_out,lifts_final,make_is,unf3,rec3,named3]
  kernel_rfl
theorem holds3 : YtpgemmklfaedfabGreatDoor.Rows.TopGrooveFollowedSaid :=
  OpenClaim.holds_of_wide 3 Tryz.f3 rfl rfl rfl rfl rfl rfl rfl ⟨rfl,rfl,rfl,rfl,rfl⟩ rfl rfl rfl rfl rfl (by kernel_rfl) Tryz.func3 facts3
    (of_decide_eq_true (by kernel_rfl)) (by unfold Func.isWrapper; first | (rw [if_pos (by decide +kernel)]; kernel_rfl) | (rw [if_neg (by decide +kernel)]; exact ⟨rfl,rfl⟩))
    (fun os started H enc _ => lifted3 os started H enc)
end Go.Lq
namespace Go.Proofs.YtpgemmklfaedfabGreatDoor
open Go Go.Lq
theorem topGrooveFollowed_proved : Rows.TopGrooveFollowedCardSaid :=
  Claim7.holds_tied_plain_at .later [] [.data,.data,.data,.data,.sentinel,.sentinel,.data,.pinned] true (true,"a925d5a445d454139ed36b2c39ef5e85728b28b8ea0c079c3c7dbae0e5eef53c") true
    holds3 (fun _ h => by cases h) (by kernel_rfl) (fun _ h => by cases h) topGrooveFollowed_row_tie rfl ⟨rfl,rfl⟩ main_is rfl
    (fun f fn hf hfn => by
      obtain rfl : f = 3 := Option.some.inj ((show Tryz.prog.funcNamed "lacquer/lacquertop.TopGrooveFollowed" = some 3 by kernel_rfl).symm.trans hf) |>.symm
      obtain rfl : fn = Tryz.f3 := (Option.some.inj (Tryz.func3.symm.trans hfn)).symm
      exact ⟨looks0,fun j t ht => by
        rw [Tryz.params3] at ht
        have hm : t ∈ [24] := by simpa using Array.mem_of_getElem? ht
        have hall : ([24].all fun u => !Tryz.prog.wantsStandIn u) = true := by kernel_rfl
        exact (show Tryz.prog.wantsStandIn t = false by simpa using List.all_eq_true.1 hall t hm)⟩)
    (by kernel_rfl)
end Go.Proofs.YtpgemmklfaedfabGreatDoor
