/- Towards ResampleStrings of seat YtejkpmemicpheabGreatDoor: it returns true for every input. Made out of the proof's own texts, merged. -/
import Derived.Lib.SplitLaws
import Derived.Test.YtejkpmemicpheabGreatDoorV42
set_option linter.unusedSimpArgs false
set_option linter.unnecessarySimpa false
set_option linter.unusedVariables false
set_option linter.unusedSectionVars false
set_option maxRecDepth 100000
namespace Go.Lq
open Go
def allD (l : List UInt8) : Prop := ∀ b ∈ l,48 ≤ b.toNat ∧ b.toNat ≤ 57
def valF (acc : Nat) (l : List UInt8) : Nat := l.foldl (fun a b => 10 * a + (b.toNat - 48)) acc
theorem valF_cons (acc : Nat) (b : UInt8) (r : List UInt8) : valF acc (b :: r) = valF (10 * acc + (b.toNat - 48)) r := by unfold valF; rw [List.foldl_cons]
theorem valF_snoc (acc : Nat) (l : List UInt8) (b : UInt8) : valF acc (l ++ [b]) = 10 * valF acc l + (b.toNat - 48) := by simp [valF,List.foldl_append]
theorem valF_ge : ∀ (l : List UInt8) (acc : Nat),acc ≤ valF acc l
  | [],acc => Nat.le_refl _
  | b :: r,acc => by rw [valF_cons]; have := valF_ge r (10 * acc + (b.toNat - 48)); omega
theorem digV_all : ∀ (l : List UInt8) (acc : Nat),allD l → digV acc l = some (valF acc l : Nat)
  | [],acc,_ => rfl
  | b :: r,acc,h => by
    have hb := h b (List.mem_cons_self ..)
    rw [digV,if_neg (by omega),valF_cons,← digV_all r _ fun x hx => h x (List.mem_cons_of_mem _ hx)]
    congr 1
    omega
theorem digV_some : ∀ (l : List UInt8) (acc n : Int),digV acc l = some n → allD l
  | [],_,_,_ => fun b h => by cases h
  | b :: r,acc,n,h => by
    rw [digV] at h
    split at h
    · cases h
    · rename_i hb
      intro x hx
      rcases List.mem_cons.1 hx with rfl | hx
      · omega
      · exact digV_some r _ n h x hx
theorem parse_all : ∀ (l : List UInt8) (acc : Nat),allD l → valF acc l < 9223372036854775808 → Lib.parseUint10 acc l = .ok (valF acc l)
  | [],acc,_,_ => rfl
  | b :: r,acc,h,hv => by
    have hb := h b (List.mem_cons_self ..)
    rw [valF_cons] at hv ⊢
    have hge := valF_ge r (10 * acc + (b.toNat - 48))
    rw [Lib.parseUint10,if_pos hb,if_neg (by omega),if_neg (by omega),Nat.mul_comm acc 10]
    exact parse_all r _ (fun x hx => h x (List.mem_cons_of_mem _ hx)) hv
theorem ofNat_toNat {k : Nat} (h : k < 256) : (UInt8.ofNat k).toNat = k := by
  rw [UInt8.toNat_ofNat']; omega
theorem dec_all (u : Nat) : allD (Lib.decDigits u) ∧ valF 0 (Lib.decDigits u) = u ∧ ∃ b r,Lib.decDigits u = b :: r ∧ (b.toNat = 48 → u = 0) := by
  induction u using Nat.strongRecOn with
  | ind u ih =>
    by_cases h : u < 10
    · rw [Lib.decDigits_one h]
      have e := ofNat_toNat (k := 48 + u) (by omega)
      refine ⟨fun b hb => ?_,?_,_,_,rfl,?_⟩
      · rw [List.mem_singleton.1 hb,e]; omega
      · show 10 * 0 + ((UInt8.ofNat (48 + u)).toNat - 48) = u
        rw [e]; omega
      · rw [e]; omega
    · rw [dec_step h]
      obtain ⟨h1,h2,b,r,h3,h4⟩ := ih (u / 10) (by omega)
      have hm := Nat.mod_lt u (show 0 < 10 by decide)
      have e := ofNat_toNat (k := 48 + u % 10) (by omega)
      refine ⟨fun x hx => ?_,?_,b,r ++ [_],by rw [h3]; rfl,fun hb => by have := h4 hb; omega⟩
      · rcases List.mem_append.1 hx with hx | hx
        · exact h1 x hx
        · rw [List.mem_singleton.1 hx,e]; omega
      · rw [valF_snoc,h2,e]; omega
theorem snoc_ind {p : List UInt8 → Prop} (h0 : p []) (h1 : ∀ l b,p l → p (l ++ [b])) (l : List UInt8) : p l := by
  have : ∀ m : List UInt8,p m.reverse := fun m => by
    induction m with
    | nil => exact h0
    | cons b r ih => rw [List.reverse_cons]; exact h1 _ _ ih
  have := this l.reverse
  rwa [List.reverse_reverse] at this
theorem dec_val (l : List UInt8) : allD l → l ≠ [] → (at8 l 0 = 48 → l.length = 1) → Lib.decDigits (valF 0 l) = l := by
  induction l using snoc_ind with
  | h0 => intro _ h; exact absurd rfl h
  | h1 l b ih =>
    intro hall _ hz
    have hb := hall b (by simp)
    have hl : allD l := fun x hx => hall x (by simp [hx])
    have eb : UInt8.ofNat (48 + (b.toNat - 48)) = b := by
      apply UInt8.toNat_inj.1
      rw [ofNat_toNat (by omega)]; omega
    rw [valF_snoc]
    by_cases hn : l = []
    · subst hn
      show Lib.decDigits (10 * 0 + _) = _
      rw [Nat.mul_zero,Nat.zero_add,Lib.decDigits_one (by omega),eb]
      rfl
    · have hpos : 0 < l.length := List.length_pos_iff.2 hn
      have h0 : at8 (l ++ [b]) 0 = at8 l 0 := by
        unfold at8
        rw [show (0 : Int).toNat = 0 from rfl,getD_append_lt hpos]
      have hnz : at8 l 0 ≠ 48 := fun h => by
        have := hz (by rw [h0]; exact h)
        simp at this
        exact hn this
      have ihl := ih hl hn fun h => absurd h hnz
      have hv : valF 0 l ≠ 0 := fun h => by
        rw [h,Lib.decDigits_one (by decide)] at ihl
        apply hnz
        rw [← ihl]; rfl
      rw [dec_step (by omega),show (10 * valF 0 l + (b.toNat - 48)) / 10 = valF 0 l by omega,show (10 * valF 0 l + (b.toNat - 48)) % 10 = b.toNat - 48 by omega,ihl,eb]
theorem itoa_nat (u : Nat) : Lib.itoa (u : Int) = Lib.decDigits u := by unfold Lib.itoa; rw [if_neg (by omega),Int.toNat_natCast]
theorem atoi_dec {u : Nat} (h : u < 9223372036854775808) : Lib.atoiAll (Lib.decDigits u) = .ok (u : Int) := by
  obtain ⟨h1,h2,b,r,h3,_⟩ := dec_all u
  have hb := h1 b (by rw [h3]; simp)
  rw [h3,Lib.atoiAll_plain b r (by omega) (by omega),← h3]
  unfold Lib.parseMag
  rw [if_neg (by rw [h3]; simp),parse_all _ _ h1 (by rw [h2]; exact h),h2]
  simp only [Lib.signless]
  rw [if_neg (by omega)]
theorem numP_iff {d n : Int} {l : List UInt8} : numP d l = some n ↔ (0 ≤ n ∧ n ≤ 9223372036854775807 ∧ Lib.itoa n = l ∧ (l.length : Int) ≤ d) := by
  constructor
  · intro h
    unfold numP at h
    split at h
    · rename_i m hm
      split at h
      · rename_i hc
        cases h
        exact ⟨hc.1,(Lib.atoiAll_bounds hm).2,hc.2⟩
      · cases h
    · cases h
  · rintro ⟨h0,h1,h2,h3⟩
    obtain ⟨u,rfl⟩ : ∃ u : Nat,n = u := ⟨n.toNat,by omega⟩
    have e : Lib.atoiAll l = .ok (u : Int) := by rw [← h2,itoa_nat]; exact atoi_dec (by omega)
    unfold numP
    rw [e]
    simp [h2,h3]
theorem numR_iff {d n : Int} {l : List UInt8} (hd : d ≤ 18) : numR d l = some n ↔ (0 ≤ n ∧ Lib.itoa n = l ∧ (l.length : Int) ≤ d) := by
  constructor
  · intro h
    unfold numR at h
    split at h
    · rename_i m hm
      split at h
      · rename_i h45
        cases h
        have hs : signAt l = 0 := by unfold signAt; rw [if_neg (fun h => h45 h.2)]
        unfold numB at hm
        rw [hs] at hm
        split at hm
        · cases hm
        · rename_i hc
          have c1 : ¬ (l.length : Int) = 0 := fun h => hc (.inl h)
          have c2 : ¬ d < (l.length : Int) := fun h => hc (.inr (.inl (by simpa using h)))
          have c3 : ¬ (at8 l 0 = 48 ∧ 1 < (l.length : Int)) := fun h => hc (.inr (.inr h))
          have hm : digV 0 l = some n := by
            cases hv : digV 0 (l.drop 0) with
            | none => rw [hv] at hm; cases hm
            | some k =>
              rw [hv] at hm
              have : k = n := by simpa using hm
              rw [← this]; exact hv
          have hall := digV_some l 0 n hm
          have hv := digV_all l 0 hall
          have e : n = (valF 0 l : Nat) := by
            have : some n = some ((valF 0 l : Nat) : Int) := hm.symm.trans hv
            exact Option.some.inj this
          subst e
          refine ⟨by omega,?_,by omega⟩
          rw [itoa_nat]
          exact dec_val l hall (fun h => c1 (by rw [h]; rfl)) fun h => by
            have : ¬ 1 < (l.length : Int) := fun h' => c3 ⟨h,h'⟩
            omega
      · cases h
    · cases h
  · rintro ⟨h0,h2,h3⟩
    obtain ⟨u,rfl⟩ : ∃ u : Nat,n = u := ⟨n.toNat,by omega⟩
    rw [itoa_nat] at h2
    obtain ⟨h4,h5,b,r,h6,h7⟩ := dec_all u
    rw [h2] at h4 h5 h6
    have hb := h4 b (by rw [h6]; simp)
    have a0 : at8 l 0 = ((b.toNat : Nat) : Int) := by rw [h6]; rfl
    have hs : signAt l = 0 := by unfold signAt; rw [if_neg (fun h => by have := h.2; omega)]
    have hB : numB d l = some (u : Int) := by
      unfold numB
      rw [hs]
      have hv := digV_all l 0 h4
      rw [h5] at hv
      have hv : digV 0 (l.drop 0) = some (u : Int) := hv
      rw [hv,if_neg]
      · rfl
      · rintro (h | h | ⟨h,h'⟩)
        · rw [h6] at h; simp at h; omega
        · have : d < (l.length : Int) := by simpa using h
          omega
        · have hb48 : b.toNat = 48 := by have : at8 l 0 = 48 := h; omega
          have := h7 hb48
          subst this
          rw [Lib.decDigits_one (by decide)] at h2
          rw [← h2] at h'
          simp at h'
    unfold numR
    rw [hB]
    simp only
    rw [if_pos (by omega)]
theorem numPR {d : Int} {l : List UInt8} (hd : d ≤ 18) : numP d l = numR d l := by
  apply Option.ext
  intro n
  rw [numP_iff,numR_iff hd]
  constructor
  · rintro ⟨h0,_,h2,h3⟩; exact ⟨h0,h2,h3⟩
  · rintro ⟨h0,h2,h3⟩
    refine ⟨h0,?_,h2,h3⟩
    obtain ⟨u,rfl⟩ : ∃ u : Nat,n = u := ⟨n.toNat,by omega⟩
    rw [itoa_nat] at h2
    have hlt := Lib.lt_pow_nDigits u
    rw [← Lib.decDigits_length,h2] at hlt
    have : (10 : Nat) ^ l.length ≤ 10 ^ 18 := Nat.pow_le_pow_right (by decide) (by omega)
    have h18 : (10 : Nat) ^ 18 = 1000000000000000000 := by decide
    omega
theorem numP_fst {d : Int} {l : List UInt8} {n : Int} (hd : d ≤ 18) (h : numP d l = some n) : (numB d l).getD 0 = n := by
  rw [numPR hd] at h
  unfold numR at h
  split at h
  · rename_i m hm
    split at h
    · cases h; rw [hm]; rfl
    · cases h
  · cases h
/-! ### A text cut -/
theorem index_eq (c : UInt8) (r : List UInt8) : Lib.index (c :: r) [c] = 0 := by simp [Lib.index,List.isPrefixOf]
theorem index_ne {b c : UInt8} (h : b ≠ c) (r : List UInt8) : Lib.index (b :: r) [c] = if Lib.index r [c] = -1 then -1 else Lib.index r [c] + 1 := by
  have : ([c].isPrefixOf (b :: r)) = false := by simp [List.isPrefixOf,h.symm]
  rw [Lib.index,this]
  simp
theorem splitK_ne {b c : UInt8} (h : b ≠ c) (k : Nat) (r : List UInt8) : Lib.splitK [c] 0 k (b :: r) = match Lib.splitK [c] 0 k r with | x :: xs => (b :: x) :: xs | [] => [[b]] := by
  cases k with
  | zero => rfl
  | succ k =>
    have hg := Lib.index_ge r [c]
    simp only [Lib.splitK,index_ne h]
    by_cases hm : Lib.index r [c] = -1
    · simp [hm]
    · rw [if_neg hm]
      have e1 : ¬ (Lib.index r [c] + 1 == -1) = true := by simp; omega
      have e2 : ¬ (Lib.index r [c] == -1) = true := by simp [hm]
      rw [if_neg e1,if_neg e2]
      have e3 : (Lib.index r [c] + 1).toNat = (Lib.index r [c]).toNat + 1 := by omega
      rw [e3]
      simp [Nat.add_right_comm]
theorem splitK_eq (c : UInt8) (k : Nat) (r : List UInt8) : Lib.splitK [c] 0 (k + 1) (c :: r) = [] :: Lib.splitK [c] 0 k r := by
  simp only [Lib.splitK,index_eq]
  simp
theorem split_cutL (c : UInt8) (l : List UInt8) : Lib.split l [c] = cutL c l := by
  unfold Lib.split
  induction l with
  | nil =>
    have : Lib.count [] [c] = 0 := by rw [Lib.count_one]; rfl
    rw [this]; rfl
  | cons b r ih =>
    by_cases h : b = c
    · subst h
      rw [Lib.count_cons_eq,Nat.add_comm 1,splitK_eq,ih,cutL,if_pos rfl]
    · obtain ⟨x,xs,e⟩ := cutL_ne c r
      have e1 : Lib.splitK [c] 0 (Lib.count (b :: r) [c]) (b :: r) = (b :: x) :: xs := by rw [Lib.count_cons_ne _ _ _ h,splitK_ne h,ih,e]
      have e2 : cutL c (b :: r) = (b :: x) :: xs := by rw [cutL,if_neg h,e]
      rw [e1,e2]
theorem cut_cutL (c : UInt8) (l : List UInt8) : cutL c l = if (Lib.cut l [c]).2.2 = true then (Lib.cut l [c]).1 :: cutL c (Lib.cut l [c]).2.1 else [l] := by
  induction l with
  | nil => simp [cutL,Lib.cut,Lib.index]
  | cons b r ih =>
    by_cases h : b = c
    · subst h
      rw [cutL,if_pos rfl]
      simp [Lib.cut,index_eq]
    · have hg := Lib.index_ge r [c]
      rw [cutL,if_neg h,ih]
      unfold Lib.cut
      rw [index_ne h]
      by_cases hm : Lib.index r [c] = -1
      · simp [hm]
      · have e1 : 0 ≤ Lib.index r [c] := by omega
        have e2 : 0 ≤ Lib.index r [c] + 1 := by omega
        have e3 : (Lib.index r [c] + 1).toNat = (Lib.index r [c]).toNat + 1 := by omega
        simp only [if_neg hm,if_pos e1,if_pos e2,if_true,e3]
        simp [Nat.add_right_comm]
def i64 (n : Int) : Prop := -9223372036854775808 ≤ n ∧ n ≤ 9223372036854775807
theorem Txts.of_cells {J : AHeap} {id c : Nat} {o : Bool} {e : Nat} {pl : List (List UInt8)} (h : J[id]? = some (.cells o e (strs pl))) : Txts J pl (.slice (some ⟨id,0,none⟩) pl.length c) := by
  refine ⟨by simp [strs],.inr ⟨id,0,c,rfl,fun _ => ?_⟩⟩
  unfold cellsAt
  rw [h]
  simp only [List.drop_zero,Nat.zero_add,Nat.mul_one,strs_length,Nat.le_refl,if_true]
  rw [List.take_of_length_le (by rw [strs_length]; exact Nat.le_refl _)]
end Go.Lq

namespace Go.Lq
open Go
open Go.Proofs
theorem index_lt {c : UInt8} (r : List UInt8) (h : 0 ≤ Lib.index r [c]) : Lib.index r [c] < r.length := by
  induction r with
  | nil => simp [Lib.index] at h
  | cons b s ih =>
    by_cases hb : b = c
    · subst hb; rw [index_eq]; simp
    · rw [index_ne hb] at h ⊢
      by_cases hm : Lib.index s [c] = -1
      · rw [if_pos hm] at h; omega
      · rw [if_neg hm] at h ⊢
        have hg := Lib.index_ge s [c]
        have := ih (by omega)
        simp; omega
def pieces (r : List UInt8) : List (List Value) := (cutL 32 r).map fun w => [.string (bs w)]
theorem pieces_no {r : List UInt8} (h : Lib.index r [32] < 0) : pieces r = [[.string (bs r)]] := by
  unfold pieces
  rw [cut_cutL,if_neg (by unfold Lib.cut; rw [if_neg (by omega)]; simp)]
  rfl
theorem pieces_yes {r : List UInt8} (h : 0 ≤ Lib.index r [32]) : pieces r = [.string (bs (r.take (Lib.index r [32]).toNat))] :: pieces (r.drop ((Lib.index r [32]).toNat + 1)) := by
  unfold pieces
  rw [cut_cutL,if_pos (by unfold Lib.cut; rw [if_pos h])]
  unfold Lib.cut
  rw [if_pos h]
  rfl
theorem store_s1 {J : AHeap} {b : Nat} {x : Value} {s : ByteArray} (h : J[b]? = some (.cells true 0 [x])) : storeR 1 (.pointer (some ⟨b,0,none⟩)) (.string s) J = some (undef,J.set b (.cells true 0 [.string s])) := by
  have ec : (Value.string s).cells.toList = [.string s] := rfl
  have ec2 : (Value.string s).cells.size = 1 := rfl
  have ec4 : ([Value.string s].all isAtom) = true := rfl
  have ec5 : setCells [x] 0 [.string s] = [.string s] := rfl
  simp only [storeR,ec,ec2,if_true,storeAt,h,List.length_cons,List.length_nil,Nat.zero_add,Nat.le_refl,ec4,and_self,Option.map_some,ec5]
def SeqFact (a c : Nat) (H : AHeap) : Prop := StrH H ∧ H[a]? = some (.cells true 0 [.string (bs [32])]) ∧ H[c]? = some (.cells true 0 [.int .i64 0])
section
variable {H : AHeap}
set_option maxHeartbeats 1000000 in
theorem splitSeq1_c {a b c : Nat} {l : List UInt8} (hl : l.length ≤ 100000) :
    GenC Go.Proofs.Tryz.prog 140 [] [.pointer (some ⟨a,0,none⟩),.pointer (some ⟨b,0,none⟩),.pointer (some ⟨c,0,none⟩)] b (.cells true 0 [.string (bs l)]) (SeqFact a c) (pieces l) := by
  intro y I S H0 hF hset hround hk hI0
  show ACall _ _ [.func (.yield y) #[] #[],.pointer (some ⟨a,0,none⟩),.pointer (some ⟨b,0,none⟩),.pointer (some ⟨c,0,none⟩)] _ _
  obtain ⟨fs,fa,fc⟩ := hF _ _ hI0
  have ha0 : loadR (.pointer (some ⟨a,0,none⟩)) H0 = some (.string (bs [32]),H0) := by rw [load_at fa]; rfl
  (refine a140 ?_; simp only [n140,List.replicate,yq,yr,yt,yu]; first | refine q1 ?_ | refine q2 ?_ | refine q6 ?_ | refine q7 ?_ | refine qh rfl ?_ | skip)
  (repeat(first|refine yw ?_|((first|apply yd|apply ye);simp (disch:=first|exact zz|fail) only[go_sem,ha0,List.length_cons,List.length_nil];with_reducible rfl)))
  refine cond_f rfl ?_
  (refine yg ?_)
  refine awp_loop [true,true,true,true,false,false,false,false,false,false,false,false,false,false,false,false,false,false,false,false,false,false,false,false,false,false,false,false,false,false,false,false,false,false,false,false,false,false,false,false,false,false,false,false,false,false,false,false,false,false,false,false] (fun k e H' => e = [.func (.yield y) #[] #[],.pointer (some ⟨a,0,none⟩),.pointer (some ⟨b,0,none⟩),.pointer (some ⟨c,0,none⟩),junk,junk,junk,junk,junk,junk,junk,junk,junk,junk,junk,junk,junk,junk,junk,junk,junk,junk,junk,junk,junk,junk,junk,junk,junk,junk,junk,junk,junk,junk,junk,junk,junk,junk,junk,junk,junk,junk,junk,junk,junk,junk,junk,junk,junk,junk,junk,junk] ∧ ∃ r,k = r.length ∧ r.length ≤ l.length ∧
      H'[b]? = some (.cells true 0 [.string (bs r)]) ∧ I (pieces r) H') l.length ?_ ?_
  · exact ⟨by simp [forget],l,rfl,Nat.le_refl _,hk,hI0⟩
  rintro k e H1 ⟨rfl,r,rfl,hrl,hb,hI⟩
  obtain ⟨fs,fa,fc⟩ := hF _ _ hI
  have ha : loadR (.pointer (some ⟨a,0,none⟩)) H1 = some (.string (bs [32]),H1) := by rw [load_at fa]; rfl
  have hb0 : loadR (.pointer (some ⟨b,0,none⟩)) H1 = some (.string (bs r),H1) := by rw [load_at hb]; rfl
  have hc0 : loadR (.pointer (some ⟨c,0,none⟩)) H1 = some (.int .i64 0,H1) := by rw [load_at fc]; rfl
  (repeat(first|refine yw ?_|((first|apply yd|apply ye);simp (disch:=first|exact zz|fail) only[go_sem,ha,hb0];with_reducible rfl)))
  (refine aops_call_to (index_c fs (l := r) (m := [32]) (by omega)) ?_)
  have hge := Lib.index_ge r [32]
  by_cases hneg : Lib.index r [32] < 0
  · rw [pieces_no hneg] at hI
    (repeat(first|refine yw ?_|((first|apply yd|apply ye);simp (disch:=first|exact zz|fail) only[go_sem,dec_t hneg];with_reducible rfl)))
    refine cond_t rfl ?_
    (repeat(first|refine yw ?_|((first|apply yd|apply ye);simp (disch:=first|exact zz|fail) only[go_sem,hb0];with_reducible rfl)))
    refine aops_call ((hround _ _ _ hI).mono fun v1 H3 h => ?_)
    rcases h with ⟨rfl,hI3,_⟩ | ⟨rfl,hS⟩
    · (refine yg ?_)
      exact ⟨.inl rfl,undef,rfl,.inl hI3⟩
    · (refine yg ?_)
      exact ⟨.inl rfl,undef,rfl,.inr hS⟩
  have h0 : 0 ≤ Lib.index r [32] := by omega
  have hlt := index_lt r h0
  rw [pieces_yes h0] at hI
  obtain ⟨n,hn⟩ : ∃ n,n = (Lib.index r [32]).toNat := ⟨_,rfl⟩
  have hn' : Lib.index r [32] = (n : Int) := by omega
  rw [hn',Int.toNat_natCast] at hI
  rw [hn'] at hneg hlt ⊢
  have hnl : n < r.length := by omega
  (repeat(first|refine yw ?_|((first|apply yd|apply ye);simp (disch:=first|exact zz|fail) only[go_sem,dec_f hneg,hb0,hc0];with_reducible rfl)))
  refine cond_f rfl ?_
  (repeat(first|refine yw ?_|((first|apply yd|apply ye);simp (disch:=first|exact zz|fail) only[go_sem,hb0,hc0];with_reducible rfl)))
  have e0 : (n : Int) + 0 = (n : Int) := by omega
  refine aops_call ((hround _ _ _ hI).mono fun v1 H3 h => ?_)
  rcases h with ⟨rfl,hI3,hb3⟩ | ⟨rfl,hS⟩
  · obtain ⟨fs3,fa3,fc3⟩ := hF _ _ hI3
    have hb3' : H3[b]? = some (.cells true 0 [.string (bs r)]) := hb3.trans hb
    have ha3 : loadR (.pointer (some ⟨a,0,none⟩)) H3 = some (.string (bs [32]),H3) := by rw [load_at fa3]; rfl
    have hb30 : loadR (.pointer (some ⟨b,0,none⟩)) H3 = some (.string (bs r),H3) := by rw [load_at hb3']; rfl
    have e1 : ((n : Int) + ((0 + 1 : Nat) : Int)) = ((n + 1 : Nat) : Int) := by omega
    (refine yg ?_)
    refine cond_f rfl ?_
    (repeat(first|refine yw ?_|((first|apply yd|apply ye);simp (disch:=first|exact zz|fail) only[go_sem,hb30,ha3,List.length_cons,List.length_nil,e1,store_s1 hb3'];with_reducible rfl)))
    refine ⟨_,?_,rfl,r.drop (n + 1),rfl,by rw [List.length_drop]; omega,get_set_self hb3',hset _ _ _ hI3⟩
    rw [List.length_drop]; omega
  · (refine yg ?_)
    refine cond_t rfl ?_
    (refine yg ?_)
    exact ⟨.inr rfl,undef,rfl,.inr hS⟩
end
end Go.Lq

namespace Go.Lq
open Go
open Go.Proofs
theorem Own.set_lt {H0 H : AHeap} {sz n : Nat} {vs : List Value} {v : Value} (h : Own H0 H sz n vs v) {j : Nat} (hj : j < H0.length) (c : AObj) : Own H0 (H.set j c) sz n vs v :=
  ⟨h.1,h.2.imp_right fun ⟨id,e,h1,h2,hc⟩ => ⟨id,e,h1,h2,by rw [List.getElem?_set_ne (by omega)]; exact hc⟩⟩
section
variable {H : AHeap}
theorem box_str {s : ByteArray} {H : AHeap} : boxR (.string s) H = some (.pointer (some ⟨H.length,0,none⟩),H ++ [.cells true 0 [.string s]]) := rfl
theorem box_i0 {n : Int} {H : AHeap} : boxR (.int .i64 n) H = some (.pointer (some ⟨H.length,0,none⟩),H ++ [.cells true 0 [.int .i64 n]]) := rfl
theorem splitSeq_c {l : List UInt8} : ACall Go.Proofs.Tryz.prog 40 [.string (bs l),.string (bs [32])] H fun v H' =>
    v = .func (.func 140) ⟨[]⟩ ⟨[.pointer (some ⟨H.length + 1,0,none⟩),.pointer (some ⟨H.length,0,none⟩),.pointer (some ⟨H.length + 2,0,none⟩)]⟩ ∧
      H' = H ++ [.cells true 0 [.string (bs l)],.cells true 0 [.string (bs [32])],.cells true 0 [.int .i64 0]] := by
  have inner : ACall Go.Proofs.Tryz.prog 98 [.string (bs l),.string (bs [32]),.int .i64 0] H fun v H' =>
    v = .func (.func 140) ⟨[]⟩ ⟨[.pointer (some ⟨H.length + 1,0,none⟩),.pointer (some ⟨H.length,0,none⟩),.pointer (some ⟨H.length + 2,0,none⟩)]⟩ ∧
      H' = H ++ [.cells true 0 [.string (bs l)],.cells true 0 [.string (bs [32])],.cells true 0 [.int .i64 0]] := by
    (refine a98 ?_; simp only [n98,List.replicate,yq,yr,yt,yu]; first | refine q1 ?_ | refine q2 ?_ | refine q6 ?_ | refine q7 ?_ | refine qh rfl ?_ | skip)
    (repeat(first|refine yw ?_|((first|apply yd|apply ye);simp (disch:=first|exact zz|fail) only[go_sem,box_str,box_i0];with_reducible rfl)))
    refine fin_1 ⟨?_,by simp⟩
    simp
  (refine a40 ?_; simp only [n40,List.replicate,yq,yr,yt,yu]; first | refine q1 ?_ | refine q2 ?_ | refine q6 ?_ | refine q7 ?_ | refine qh rfl ?_ | skip)
  (refine yg ?_)
  refine aops_call_to inner ?_
  (refine yg ?_)
  exact fin_1 ⟨rfl,rfl⟩
end
end Go.Lq


namespace Go.Lq
open Go
open Go.Proofs
def nilCR (x : Value) (H : AHeap) : Option (Value × AHeap) := match x with | .pointer (some a) => some (.pointer (some a),H) | .func (.func f) xs ys => some (.func (.func f) xs ys,H) | _ => none
theorem r_nilCR {x : Operand} {ρ : Operand → Value} {H : AHeap} : ropRun (.nilCheck x) ρ H = nilCR (ρ x) H := rfl
theorem nilC_p {a : Addr} {H : AHeap} : nilCR (.pointer (some a)) H = some (.pointer (some a),H) := rfl
def idxAgg (len : Nat) (x i : Value) (H : AHeap) : Option (Value × AHeap) := match x,i with | .agg cs,.int _ n => if 0 ≤ n ∧ n < len then (cs[n.toNat]?).map fun v => (v,H) else none | _,_ => none
theorem r_idxAgg {len : Nat} {x y : Operand} {ρ : Operand → Value} {H : AHeap} : ropRun (.idxA len x y) ρ H = idxAgg len (ρ x) (ρ y) H := rfl
attribute [go_sem] r_nilCR nilC_p r_idxAgg
theorem three {α : Type} {l : List α} (h : l.length = 3) : ∃ a b c,l = [a,b,c] := by
  match l,h with
  | [a,b,c],_ => exact ⟨a,b,c,rfl⟩
section
variable {H : AHeap}
end
end Go.Lq

namespace Go.Lq
open Go
open Go.Proofs
section
variable {H : AHeap}
theorem cut32_c {l : List UInt8} (hl : l.length ≤ 1000000) : ACall Go.Proofs.Tryz.prog 44 [.string (bs l),.int .u8 32] H fun v H' =>
    v = .slice (some ⟨H.length,0,none⟩) (cutL 32 l).length (cutL 32 l).length ∧ H' = H ++ [.cells true 1 (strs (cutL 32 l))] :=
  (cutR_c (c := 32) hl).mono fun v H' ⟨h1,h2⟩ => by
    obtain ⟨x,xs,e⟩ := cutL_ne 32 l
    have : (cutL 32 l).length ≠ 0 := by rw [e]; simp
    rw [h1,h2]
    unfold retV retN
    rw [if_neg this,if_neg this]
    exact ⟨rfl,rfl⟩
theorem cut64_c {l : List UInt8} (hl : l.length ≤ 1000000) : ACall Go.Proofs.Tryz.prog 44 [.string (bs l),.int .u8 64] H fun v H' =>
    v = .slice (some ⟨H.length,0,none⟩) (cutL 64 l).length (cutL 64 l).length ∧ H' = H ++ [.cells true 1 (strs (cutL 64 l))] :=
  (cutR_c (c := 64) hl).mono fun v H' ⟨h1,h2⟩ => by
    obtain ⟨x,xs,e⟩ := cutL_ne 64 l
    have : (cutL 64 l).length ≠ 0 := by rw [e]; simp
    rw [h1,h2]
    unfold retV retN
    rw [if_neg this,if_neg this]
    exact ⟨rfl,rfl⟩
theorem refNum2_c {l : List UInt8} {d : Int} (hd : d ≤ 18) (hl : l.length ≤ 1000000) : ACall Go.Proofs.Tryz.prog 126 [.string (bs l),.int .i64 d] H fun v H' => NumRes d l v ∧ H' = H :=
  (refNum_c hd hl).mono fun v H' ⟨h1,h2⟩ => ⟨⟨_,by rw [h1,numPR hd],fun m hm => numP_fst hd hm⟩,h2⟩
end
end Go.Lq

namespace Go.Lq
open Go
open Go.Proofs
def nodeT (p : Int × Int) : List UInt8 := Lib.itoa p.1 ++ [64] ++ Lib.itoa p.2
def nodesT (l : List (Int × Int)) : List (List UInt8) := l.map nodeT
def mapT (l : List (Int × Int)) : List UInt8 := Lib.join (nodesT l) [32]
def InB (l : List (Int × Int)) : Prop := ∀ p ∈ l,i64 p.1 ∧ i64 p.2
theorem nodeT_length {p : Int × Int} (h1 : i64 p.1) (h2 : i64 p.2) : (nodeT p).length ≤ 43 := by
  have b1 := Lib.itoa_length_le p.1 h1.1 h1.2
  have b2 := Lib.itoa_length_le p.2 h2.1 h2.2
  unfold nodeT
  simp only [List.length_append,List.length_cons,List.length_nil]
  omega
theorem joinTail_length {l : List (Int × Int)} (h : InB l) : (Lib.joinTail [32] (nodesT l)).length ≤ 44 * l.length := by
  induction l with
  | nil => simp [nodesT,Lib.joinTail]
  | cons p r ih =>
    have hp := h p (List.mem_cons_self ..)
    have hr := ih fun q hq => h q (List.mem_cons_of_mem _ hq)
    have hl := nodeT_length hp.1 hp.2
    have e : Lib.joinTail [32] (nodesT (p :: r)) = [32] ++ nodeT p ++ Lib.joinTail [32] (nodesT r) := by simp [Lib.joinTail,nodesT]
    rw [e]
    simp only [List.length_append,List.length_cons,List.length_nil]
    omega
theorem mapT_length {l : List (Int × Int)} (h : InB l) : (mapT l).length ≤ 44 * l.length := by
  cases l with
  | nil => simp [mapT,nodesT,Lib.join_nil]
  | cons p r =>
    have hp := h p (List.mem_cons_self ..)
    have hr := joinTail_length (l := r) fun q hq => h q (List.mem_cons_of_mem _ hq)
    have hl := nodeT_length hp.1 hp.2
    have e : mapT (p :: r) = nodeT p ++ Lib.joinTail [32] (nodesT r) := by
      unfold mapT
      show Lib.join (nodeT p :: nodesT r) [32] = _
      rw [Lib.join_cons]
    rw [e]
    simp only [List.length_append,List.length_cons]
    omega
theorem InB.take {l : List (Int × Int)} (h : InB l) (i : Nat) : InB (l.take i) := fun p hp => h p (List.mem_of_mem_take hp)
theorem InB.get {l : List (Int × Int)} (h : InB l) {i : Nat} (hi : i < l.length) : i64 (l.getD i (0,0)).1 ∧ i64 (l.getD i (0,0)).2 := by
  have : l.getD i (0,0) ∈ l := by rw [List.getD_eq_getElem?_getD,List.getElem?_eq_getElem hi]; exact List.getElem_mem _
  exact h _ this
theorem nodesT_take {l : List (Int × Int)} {i : Nat} (hi : i < l.length) : nodesT (l.take (i + 1)) = nodesT (l.take i) ++ [nodeT (l.getD i (0,0))] := by
  unfold nodesT
  rw [List.take_succ_eq_append_getElem hi,List.map_append]
  simp [List.getD,hi]
theorem mapT_snoc {l : List (Int × Int)} {i : Nat} (hi : i < l.length) : mapT (l.take (i + 1)) = mapT (l.take i) ++ (if 0 < i then [32] else []) ++ nodeT (l.getD i (0,0)) := by
  unfold mapT
  rw [nodesT_take hi]
  cases i with
  | zero => simp [nodesT,Lib.join_nil,Lib.join_one]
  | succ k =>
    have hne : ∃ p r,l.take (k + 1) = p :: r := by
      match l,hi with
      | p :: r,_ => exact ⟨p,r.take k,rfl⟩
    obtain ⟨p,r,e⟩ := hne
    rw [e]
    show Lib.join (nodeT p :: (nodesT r ++ [_])) [32] = Lib.join (nodeT p :: nodesT r) [32] ++ _ ++ _
    rw [Lib.join_cons,Lib.join_cons]
    simp [Lib.joinTail,List.append_assoc]
section
variable {H : AHeap} {l : List (Int × Int)} {v : Value}
set_option maxHeartbeats 1000000 in
theorem formatMap_c (hs : StrH H) (hl : Pairs H l v) (hn : l.length ≤ 100000) (hb : InB l) : ACall Go.Proofs.Tryz.prog 55 [.agg ⟨[v]⟩] H fun w H' => w = .string (bs (mapT l)) ∧ H' = H := by
  refine ACall.drop (.string _) ?_
  (refine a55 ?_; simp only [n55,List.replicate,yq,yr,yt,yu]; first | refine Go.Lq.q1 ?_ | refine Go.Lq.q2 ?_ | refine Go.Lq.q6 ?_ | refine Go.Lq.q7 ?_ | refine Go.Lq.qh rfl ?_ | skip)
  have g0 : (H ++ [AObj.cells true 0 [v]])[H.length]? = some (.cells true 0 [v]) := at_new
  have xG : Ext H (H ++ [AObj.cells true 0 [v]]) := (Ext.refl H).app _
  (repeat (first | refine yv ?_ | (apply yd; simp (disch:=first|exact zz|fail) only[go_sem,hl.box1];with_reducible rfl)))
  generalize (H ++ [AObj.cells true 0 [v]] : AHeap) = G at g0 xG
  have hlG := hl.ext xG
  (repeat(first|refine yw ?_|((first|apply yd|apply ye);simp (disch:=first|exact zz|fail) only[go_sem,hlG.len,hlG.idx,hlG.load,load_at g0];with_reducible rfl)))
  refine awp_loop_n [false,false,false,true,false,false,false,true,true,true,false,false,false,false,false,false,false,false,false,false,false,false,false,false,false,false,false] l.length (fun i e H' => ∃ w,e = [junk,junk,junk,w,junk,junk,junk,v,.int .i64 (l.length : Nat),.int .i64 (i : Nat),junk,junk,junk,junk,junk,junk,junk,junk,junk,junk,junk,junk,junk,junk,junk,junk,junk] ∧ Ext H H' ∧ OwnS H H' (nodesT (l.take i)) w) ?_ ?_
  · exact ⟨.slice none 0 0,by simp [forget],xG,by simp only [List.take_zero]; exact OwnS.nil _ _⟩
  rintro i e H' hi ⟨w,rfl,x1,ho⟩
  have hli := hl.ext x1
  (refine yg ?_)
  refine cond_p rfl (fun hlt => ?_) (fun hge => ?_)
  rotate_left 1
  · obtain rfl : i = l.length := by omega
    rw [List.take_length] at ho
    (refine yg ?_)
    have hml := mapT_length hb
    (refine aops_call_to (join_c (ll := nodesT l) (m := [32]) ho.txts (by simp [nodesT]; omega) (by show (mapT l).length ≤ _; omega)) ?_)
    (refine yg ?_)
    exact fin_1 ⟨rfl,x1⟩
  have hi' : i < l.length := by omega
  have e1 : (i : Int) + 1 = ((i + 1 : Nat) : Int) := by omega
  obtain ⟨b1,b2⟩ := hb.get hi'
  obtain ⟨l1,l2,l3,l4,l5⟩ := hli.load (Ext.refl _) hi'
  have q1' := Lib.itoa_length_le _ b1.1 b1.2
  have q2' := Lib.itoa_length_le _ b2.1 b2.2
  obtain ⟨p,hp⟩ : ∃ p,p = l.getD i (0,0) := ⟨_,rfl⟩
  rw [← hp] at b1 b2 l1 q1' q2'
  (repeat(first|refine yw ?_|((first|apply yd|apply ye);simp (disch:=first|exact zz|fail) only[go_sem,hli.idx,l1,store_newF];with_reducible rfl)))
  have hsn : StrH (H' ++ [AObj.cells true 0 [.int .i64 p.1,.int .i64 p.2]]) := hs.ext (x1.app _)
  have kn : (H' ++ [AObj.cells true 0 [.int .i64 p.1,.int .i64 p.2]])[H'.length]? = some (.cells true 0 [.int .i64 p.1,.int .i64 p.2]) := at_new
  have ho2 := ho.app [AObj.cells true 0 [.int .i64 p.1,.int .i64 p.2]]
  have x2 := x1.app [AObj.cells true 0 [.int .i64 p.1,.int .i64 p.2]]
  generalize (H' ++ [AObj.cells true 0 [.int .i64 p.1,.int .i64 p.2]] : AHeap) = K at hsn kn ho2 x2
  have hl0 : loadR (.pointer (some ⟨H'.length,0,none⟩)) K = some (.int .i64 p.1,K) := by rw [load_at kn]; rfl
  have hl1 : loadR (.pointer (some ⟨H'.length,1,none⟩)) K = some (.int .i64 p.2,K) := by rw [load_at kn]; rfl
  (repeat(first|refine yw ?_|((first|apply yd|apply ye);simp (disch:=first|exact zz|fail) only[go_sem,hl0];with_reducible rfl)))
  (refine adraw_call (N := []) (firstD (itoa_c hsn b1.1 b1.2)) ?_; rw [List.append_nil])
  (repeat(first|refine yw ?_|((first|apply yd|apply ye);simp (disch:=first|exact zz|fail) only[go_sem,hl1];with_reducible rfl)))
  (refine adraw_call (N := []) (firstD (itoa_c hsn b2.1 b2.2)) ?_; rw [List.append_nil])
  have hlen : (nodesT (l.take i)).length = i := by simp [nodesT]; omega
  (repeat(first|refine yw ?_|((first|apply yd|apply ye);simp (disch:=first|exact zz|fail) only[go_sem,List.length_append,ho2.push,e1];with_reducible rfl)))
  refine ⟨by omega,pushV K (nodesT (l.take i)).length,by simp [forget],ho2.ext x2 _,?_⟩
  rw [nodesT_take hi',← hp]
  exact ho2.pushed x2 (nodeT p)
set_option maxHeartbeats 1000000 in
theorem rFormatMap_c (hl : Pairs H l v) (hn : l.length ≤ 100000) (hb : InB l) : ACall Go.Proofs.Tryz.prog 70 [.agg ⟨[v]⟩] H fun w H' => w = .string (bs (mapT l)) ∧ H' = H := by
  refine ACall.drop (.string _) ?_
  (refine a70 ?_; simp only [n70,List.replicate,yq,yr,yt,yu]; first | refine Go.Lq.q1 ?_ | refine Go.Lq.q2 ?_ | refine Go.Lq.q6 ?_ | refine Go.Lq.q7 ?_ | refine Go.Lq.qh rfl ?_ | skip)
  have g0 : (H ++ [AObj.cells true 0 [v]])[H.length]? = some (.cells true 0 [v]) := at_new
  have xG : Ext H (H ++ [AObj.cells true 0 [v]]) := (Ext.refl H).app _
  (repeat (first | refine yv ?_ | (apply yd; simp (disch:=first|exact zz|fail) only[go_sem,hl.box1];with_reducible rfl)))
  generalize (H ++ [AObj.cells true 0 [v]] : AHeap) = G at g0 xG
  have hlG := hl.ext xG
  (refine yg ?_)
  refine awp_loop_n [false,true,false,true,true,false,false,false,false,false,false,false,false,false,false,false,false,false,false,false,false,false,false,false,false,false,false,false,false,false,false,false,false,false,false] l.length (fun i e H' => H' = G ∧ e = [junk,.pointer (some ⟨H.length,0,none⟩),junk,.string (bs (mapT (l.take i))),.int .i64 (i : Nat),junk,junk,junk,junk,junk,junk,junk,junk,junk,junk,junk,junk,junk,junk,junk,junk,junk,junk,junk,junk,junk,junk,junk,junk,junk,junk,junk,junk,junk,junk]) ?_ ?_
  · exact ⟨rfl,by simp [forget,mapT,nodesT,Lib.join_nil]⟩
  rintro i e H' hi ⟨rfl,rfl⟩
  (repeat(first|refine yw ?_|((first|apply yd|apply ye);simp (disch:=first|exact zz|fail) only[go_sem,hlG.len,load_at g0];with_reducible rfl)))
  refine cond_p rfl (fun hlt => ?_) (fun hge => ?_)
  rotate_left 1
  · obtain rfl : i = l.length := by omega
    rw [List.take_length]
    (refine yg ?_)
    exact fin_1 ⟨rfl,xG⟩
  have hi' : i < l.length := by omega
  have e1 : (i : Int) + 1 = ((i + 1 : Nat) : Int) := by omega
  obtain ⟨b1,b2⟩ := hb.get hi'
  obtain ⟨l1,l2,l3,l4,l5⟩ := hlG.load (Ext.refl _) hi'
  have hml := mapT_length (hb.take i)
  rw [List.length_take] at hml
  have hml : (mapT (l.take i)).length ≤ 4400000 := by omega
  have hsn := mapT_snoc hi'
  obtain ⟨p,hp⟩ : ∃ p,p = l.getD i (0,0) := ⟨_,rfl⟩
  rw [← hp] at b1 b2 l4 l5 hsn
  have q1' := Lib.itoa_length_le _ b1.1 b1.2
  have q2' := Lib.itoa_length_le _ b2.1 b2.2
  (refine yx ?_; (first | apply aops_all | apply adraw_all); simp (disch:=first|exact zz|fail) only[go_sem]; with_reducible rfl)
  refine awp_mid [false,true,false,true,true,false,false,false,false,false,false,false,false,false,false,false,false,false,false,false,false,false,false,false,false,false,false,false,false,false,false,false,false,false,false] (fun e J => J = H' ∧ e = [junk,.pointer (some ⟨H.length,0,none⟩),junk,.string (bs (mapT (l.take i) ++ (if 0 < i then [32] else []))),.int .i64 (i : Nat),junk,junk,junk,junk,junk,junk,junk,junk,junk,junk,junk,junk,junk,junk,junk,junk,junk,junk,junk,junk,junk,junk,junk,junk,junk,junk,junk,junk,junk,junk]) ?_ ?_
  · refine cond_p rfl (fun h0 => ?_) (fun h0 => ?_)
    · have h0' : 0 < i := by omega
      (refine yg ?_)
      exact ⟨rfl,rfl,by simp [forget,h0']⟩
    · have h0' : ¬ 0 < i := by omega
      (refine yg ?_)
      exact ⟨rfl,rfl,by simp [forget,h0']⟩
  rintro e J ⟨rfl,rfl⟩
  obtain ⟨pre,hpre⟩ : ∃ pre : List UInt8,pre = mapT (l.take i) ++ (if 0 < i then [32] else []) := ⟨_,rfl⟩
  have hpl : pre.length ≤ 4400001 := by
    rw [hpre,List.length_append]
    split <;> simp <;> omega
  rw [← hpre] at hsn ⊢
  (repeat(first|refine yw ?_|((first|apply yd|apply ye);simp (disch:=first|exact zz|fail) only[go_sem,load_at g0,hlG.idx,l2,l4];with_reducible rfl)))
  (refine adraw_call (N := []) (firstD (decimal_c b1.1 b1.2)) ?_; rw [List.append_nil])
  (repeat(first|refine yw ?_|((first|apply yd|apply ye);simp (disch:=first|exact zz|fail) only[go_sem,load_at g0,hlG.idx,l3,l5,List.length_append];with_reducible rfl)))
  (refine adraw_call (N := []) (firstD (decimal_c b2.1 b2.2)) ?_; rw [List.append_nil])
  (repeat(first|refine yw ?_|((first|apply yd|apply ye);simp (disch:=first|exact zz|fail) only[go_sem,List.length_append,e1];with_reducible rfl)))
  refine ⟨by omega,rfl,?_⟩
  rw [hsn]
  simp [forget,nodeT,List.append_assoc]
end
end Go.Lq

namespace Go.Lq
open Go
open Go.Proofs
def nodeP (w : List UInt8) : Option (Int × Int) := match numP 7 (Lib.cut w [64]).1,numP 13 (Lib.cut w [64]).2.1 with | some p,some t => some (p,t) | _,_ => none
def nodesP : List (List UInt8) → Option (List (Int × Int))
  | [] => some []
  | w :: ws => match nodeP w with | some n => (nodesP ws).map (n :: ·) | none => none
def parseMapL (l : List UInt8) : List (Int × Int) × Int :=
  match nodesP (cutL 32 l) with
  | none => ([],7)
  | some ns => if mapErrL ns = 0 then (ns,0) else ([],mapErrL ns)
theorem nodesP_cons {w : List UInt8} {ws : List (List UInt8)} {n : Int × Int} (h : nodeP w = some n) : nodesP (w :: ws) = (nodesP ws).map (n :: ·) := by
  rw [nodesP,h]
  first | done | rfl
theorem nodesP_none {w : List UInt8} {ws : List (List UInt8)} (h : nodeP w = none) : nodesP (w :: ws) = none := by
  rw [nodesP,h]
  first | done | rfl
theorem OwnP.set_lt {H0 H : AHeap} {l : List (Int × Int)} {v : Value} (h : OwnP H0 H l v) {j : Nat} (hj : j < H0.length) (c : AObj) : OwnP H0 (H.set j c) l v := Own.set_lt h hj c
def Keep2 (a b : Nat) (G H : AHeap) : Prop := G.length ≤ H.length ∧ ∀ i,i < G.length → i ≠ a → i ≠ b → H[i]? = G[i]?
end Go.Lq

namespace Go.Lq
open Go
open Go.Proofs
theorem store_i1 {J : AHeap} {b : Nat} {x : Value} {n : Int} (h : J[b]? = some (.cells true 0 [x])) : storeR 1 (.pointer (some ⟨b,0,none⟩)) (.int .i64 n) J = some (undef,J.set b (.cells true 0 [.int .i64 n])) := by
  have ec : (Value.int .i64 n).cells.toList = [.int .i64 n] := rfl
  have ec2 : (Value.int .i64 n).cells.size = 1 := rfl
  have ec4 : ([Value.int .i64 n].all isAtom) = true := rfl
  have ec5 : setCells [x] 0 [.int .i64 n] = [.int .i64 n] := rfl
  simp only [storeR,ec,ec2,if_true,storeAt,h,List.length_cons,List.length_nil,Nat.zero_add,Nat.le_refl,ec4,and_self,Option.map_some,ec5]
theorem store_ag1 {J : AHeap} {b : Nat} {x y : Value} (h : J[b]? = some (.cells true 0 [x])) (hy : isAtom y = true) : storeR 1 (.pointer (some ⟨b,0,none⟩)) (.agg ⟨[y]⟩) J = some (undef,J.set b (.cells true 0 [y])) :=
  store_all (us := [y]) h rfl (by simp [hy]) rfl
theorem Keep2.get {a b : Nat} {G H : AHeap} (h : Keep2 a b G H) {i : Nat} {c : AObj} (hi : G[i]? = some c) (ha : i ≠ a) (hb : i ≠ b) : H[i]? = some c := by
  rw [h.2 i (List.getElem?_eq_some_iff.1 hi).1 ha hb]; exact hi
theorem Keep2.set {a b j : Nat} {G H : AHeap} (h : Keep2 a b G H) (hj : j = a ∨ j = b ∨ G.length ≤ j) (c : AObj) : Keep2 a b G (H.set j c) :=
  ⟨by simpa using h.1,fun i hi h1 h2 => by rw [List.getElem?_set_ne (by omega)]; exact h.2 i hi h1 h2⟩
theorem Keep2.ext {a b : Nat} {H0 G H : AHeap} (h : Keep2 a b G H) (hx : Ext H0 G) (ha : H0.length ≤ a) (hb : H0.length ≤ b) : Ext H0 H :=
  ext_of_get (by have := hx.len; have := h.1; omega) fun i hi => by rw [h.2 i (by have := hx.len; omega) (by omega) (by omega)]; exact hx.get hi
theorem Keep2.push {a b : Nat} {G H : AHeap} (h : Keep2 a b G H) {B : AHeap} {ns : List (Int × Int)} {v : Value} (ho : OwnP B H ns v) (hB : G.length ≤ B.length) (x : Int × Int) : Keep2 a b G (pushPH H v ns x) := by
  unfold pushPH appH
  rcases ho.2 with ⟨rfl,_⟩ | ⟨id,rfl,h1,_,_⟩
  · exact ⟨by have := h.1; simp; omega,fun i hi e1 e2 => by
      have := h.1
      rw [List.getElem?_append_left (by simp; omega),List.getElem?_append_left (by omega)]
      exact h.2 i hi e1 e2⟩
  · exact ⟨by have := h.1; simp; omega,fun i hi e1 e2 => by
      have := h.1
      rw [List.getElem?_append_left (by simp; omega),List.getElem?_set_ne (by show id ≠ i; omega),List.getElem?_append_left (by omega)]
      exact h.2 i hi e1 e2⟩
theorem push_get {H : AHeap} {B : AHeap} {ns : List (Int × Int)} {v : Value} (ho : OwnP B H ns v) {i : Nat} (hi : i < B.length) (hl : i < H.length) (x : Int × Int) : (pushPH H v ns x)[i]? = H[i]? := by
  unfold pushPH appH
  rcases ho.2 with ⟨rfl,_⟩ | ⟨id,rfl,h1,_,_⟩
  · rw [List.getElem?_append_left (by simp; omega),List.getElem?_append_left hl]
  · rw [List.getElem?_append_left (by simp; omega),List.getElem?_set_ne (by show id ≠ i; omega),List.getElem?_append_left hl]
theorem OwnP.pushed2 {H0 H : AHeap} {l : List (Int × Int)} {v : Value} (h : OwnP H0 H l v) (hx : H0.length ≤ H.length) (x : Int × Int) : OwnP H0 (pushPH H v l x) (l ++ [x]) (pushV H l.length) := by
  have := Own.appended (h.app [.cells true 2 [.int .i64 x.1,.int .i64 x.2]]) (m := 1) (cs := [.int .i64 x.1,.int .i64 x.2]) rfl (by omega) (by simp; omega)
  unfold OwnP
  simpa [pushV,pushPH,flatP] using this
theorem cut_lens (w : List UInt8) : (Lib.cut w [64]).1.length ≤ w.length ∧ (Lib.cut w [64]).2.1.length ≤ w.length := by
  unfold Lib.cut
  split
  · simp; omega
  · simp
theorem nodeP_a {w : List UInt8} (h : numP 7 (Lib.cut w [64]).1 = none) : nodeP w = none := by
  unfold nodeP; rw [h]
theorem nodeP_b {w : List UInt8} (h : numP 13 (Lib.cut w [64]).2.1 = none) : nodeP w = none := by
  unfold nodeP; rw [h]; cases numP 7 (Lib.cut w [64]).1 <;> rfl
theorem nodeP_c {w : List UInt8} {a b : Int} (h1 : numP 7 (Lib.cut w [64]).1 = some a) (h2 : numP 13 (Lib.cut w [64]).2.1 = some b) : nodeP w = some (a,b) := by
  unfold nodeP; rw [h1,h2]
def Left (l : List UInt8) (i4 k : Nat) (G : AHeap) (rest : List (List Value)) (H : AHeap) : Prop :=
  ∃ (ws : List (List UInt8)) (ns : List (Int × Int)) (v : Value),rest = ws.map (fun w => [Value.string (bs w)]) ∧ nodesP (cutL 32 l) = (nodesP ws).map (ns ++ ·) ∧ (∀ w ∈ ws,w.length ≤ 100000) ∧ ns.length + ws.length ≤ 100001 ∧
    Keep2 i4 k G H ∧ H[i4]? = some (.cells true 0 [v]) ∧ OwnP (G ++ [.dead]) H ns v
def Stop (l : List UInt8) (H0 : AHeap) (x : AExit) (H : AHeap) : Prop :=
  x = .ret ∧ nodesP (cutL 32 l) = none ∧ Ext H0 H ∧ H[H0.length]? = some (.cells true 0 [.slice none 0 0]) ∧ H[H0.length + 1]? = some (.cells true 0 [.int .i64 7])
def junkE : Env := []
theorem wraps_aggT (e : Int) : Wraps fun s => .tuple #[.agg ⟨[s]⟩,.int .i64 e] := fun s n a b h =>
  .tuple rfl fun i u u' h1 h2 => by
    match i with
    | 0 =>
      simp at h1 h2; subst h1; subst h2
      refine .agg rfl fun j v v' g1 g2 => ?_
      match j with
      | 0 => simp at g1 g2; subst g1; subst g2; exact h
      | j + 1 => simp at g1
    | 1 => simp at h1 h2; subst h1; subst h2; exact (Closed.int _ _).ren _ _
    | i + 2 => simp at h1
section
variable {H : AHeap}
set_option maxHeartbeats 4000000 in
theorem parseMap_c (hs : StrH H) {l : List UInt8} (hl : l.length ≤ 60000) : ACall Go.Proofs.Tryz.prog 63 [.string (bs l)] H fun w H' =>
    w = .tuple #[.agg ⟨[retV H (parseMapL l).1.length]⟩,.int .i64 (parseMapL l).2] ∧ H' = H ++ retN 2 (parseMapL l).1.length (flatP (parseMapL l).1) := by
  refine ACall.tidy (f := fun s => .tuple #[.agg ⟨[s]⟩,.int .i64 (parseMapL l).2]) (wraps_aggT _) (closed_flatP _) ?_
  (refine a63 ?_; simp only [n63,List.replicate,yq,yr,yt,yu]; first | refine q1 ?_ | refine q2 ?_ | refine q6 ?_ | refine q7 ?_ | refine qh rfl ?_ | skip)
  (repeat(first|refine yw ?_|((first|apply yd|apply ye);simp (disch:=first|exact zz|fail) only[go_sem,dec_f (show ¬ (60000 : Int) < (l.length : Int) by omega)];with_reducible rfl)))
  refine cond_f rfl ?_
  (refine yg ?_)
  refine aops_call_to splitSeq_c ?_
  (simp only [List.length_append,List.length_cons,List.length_nil,Nat.zero_add,Nat.add_assoc,Nat.reduceAdd])
  obtain ⟨G,hG⟩ : ∃ G,G = H ++ [AObj.cells true 0 [.slice none 0 0]] ++ [AObj.cells true 0 [.int .i64 0]] ++ [AObj.cells true 0 [.slice none 0 0]] ++ [AObj.cells true 0 [.string (bs l)],AObj.cells true 0 [.string (bs [32])],AObj.cells true 0 [.int .i64 0]] := ⟨_,rfl⟩
  have k2 : G[H.length]? = some (.cells true 0 [.slice none 0 0]) := by rw [hG]; simp
  have k3 : G[H.length + 1]? = some (.cells true 0 [.int .i64 0]) := by rw [hG]; simp
  have k4 : G[H.length + 2]? = some (.cells true 0 [.slice none 0 0]) := by rw [hG]; simp
  have kb : G[H.length + 3]? = some (.cells true 0 [.string (bs l)]) := by rw [hG]; simp
  have ka : G[H.length + 4]? = some (.cells true 0 [.string (bs [32])]) := by rw [hG]; simp
  have kc : G[H.length + 5]? = some (.cells true 0 [.int .i64 0]) := by rw [hG]; simp
  have lG : G.length = H.length + 6 := by rw [hG]; simp
  have xG : Ext H G := by rw [hG]; exact ((((Ext.refl H).app _).app _).app _).app _
  rw [← hG]
  clear hG
  (refine yg ?_)
  refine awp_rangeC mo rfl (fun l h => by cases h) (splitSeq1_c (a := H.length + 4) (b := H.length + 3) (c := H.length + 5) (l := l) (by omega)) kb (Left l (H.length + 2) (H.length + 3) G) (Stop l H) ?_ ?_ ?_ ?_ ?_ ?_ ?_ ?_
  · rintro rest H' c' ⟨ws,ns,v,h1,h2,h3,h4,h5,h7,h8⟩
    exact ⟨ws,ns,v,h1,h2,h3,h4,h5.set (.inr (.inr (Nat.le_refl _))) _,by rw [List.getElem?_set_ne (by omega)]; exact h7,h8.set_lt (by simp) _⟩
  · rintro rest H' c' ⟨ws,ns,v,h1,h2,h3,h4,h5,h7,h8⟩
    exact ⟨ws,ns,v,h1,h2,h3,h4,h5.set (.inr (.inl rfl)) _,by rw [List.getElem?_set_ne (by omega)]; exact h7,h8.set_lt (by simp; omega) _⟩
  · rintro x H' c' ⟨h1,h2,h3,h4,h5⟩
    exact ⟨h1,h2,h3.set (by omega) _,by rw [List.getElem?_set_ne (by omega)]; exact h4,by rw [List.getElem?_set_ne (by omega)]; exact h5⟩
  · rintro rest H' ⟨ws,ns,v,h1,h2,h3,h4,h5,h7,h8⟩
    exact ⟨hs.ext (h5.ext xG (by omega) (by omega)),h5.get ka (by omega) (by omega),h5.get kc (by omega) (by omega)⟩
  · intro N
    refine ⟨cutL 32 l,[],.slice none 0 0,rfl,?_,fun w hw => by have := cutL_piece 32 l w hw; omega,by have := cutL_length 32 l; simp; omega,⟨by simp,fun i hi _ _ => List.getElem?_append_left hi⟩,by rw [List.getElem?_append_left (by omega)]; exact k4,OwnP.nil _ _⟩
    cases nodesP (cutL 32 l) <;> simp
  · rintro a rest H1 ⟨ws,ns,v,h1,h2,h3,h4,h5,h7,h8⟩ hlt
    match ws,h1 with
    | w :: ws,h1 =>
    obtain ⟨rfl,rfl⟩ := List.cons.inj h1
    have hwl := h3 w (List.mem_cons_self ..)
    obtain ⟨c1,c2⟩ := cut_lens w
    refine ⟨rfl,fun R Rb _ hR => ?_⟩
    simp only [assignParams,List.zip_cons_cons,List.zip_nil_left,List.foldl_cons,List.foldl_nil]
    (refine yg ?_)
    refine ⟨rfl,hR,?_⟩
    have h5' := h5.set (.inr (.inr (Nat.le_refl _))) Rb
    have h7' : (H1.set G.length Rb)[H.length + 2]? = some (.cells true 0 [v]) := by rw [List.getElem?_set_ne (by omega)]; exact h7
    have h8' : OwnP (G ++ [.dead]) (H1.set G.length Rb) ns v := h8.set_lt (by simp) _
    have hRb : (H1.set G.length Rb)[G.length]? = some Rb := get_set_self hR
    have hkk : (H1.set G.length Rb)[H.length + 3]? = H1[H.length + 3]? := List.getElem?_set_ne (by omega)
    have hll : G.length < (H1.set G.length Rb).length := by simpa using hlt
    generalize (H1.set G.length Rb : AHeap) = K at h5' h7' h8' hRb hkk hll
    have xK := h5'.ext xG (by omega) (by omega)
    have hsK := hs.ext xK
    have m2 := h5'.get k2 (by omega) (by omega)
    have m3 := h5'.get k3 (by omega) (by omega)
    (refine yg ?_)
    (refine aops_call_to (cut_c hsK (l := w) (m := [64]) (by omega)) ?_)
    (refine yg ?_)
    refine aops_call ((number_c hsK (l := (Lib.cut w [64]).1) (d := 7) (by omega)).mono fun v1 K1 ⟨⟨n1,e1,f1⟩,e⟩ => ?_)
    subst e
    subst e1
    (refine yg ?_)
    refine aops_call ((number_c hsK (l := (Lib.cut w [64]).2.1) (d := 13) (by omega)).mono fun v2 K2 ⟨⟨n2,e2,f2⟩,e⟩ => ?_)
    subst e
    subst e2
    have m3' : ∀ c,(K2.set H.length c)[H.length + 1]? = some (.cells true 0 [.int .i64 0]) := fun c => by rw [List.getElem?_set_ne (by omega)]; exact m3
    have hstop : nodeP w = none → Rounded G.length Rb (fun H' => Left l (H.length + 2) (H.length + 3) G (List.map (fun w => [Value.string (bs w)]) ws) H' ∧ H'[H.length + 3]? = H1[H.length + 3]?) (Stop l H) .ret junkE
        ((K2.set H.length (.cells true 0 [.slice none 0 0])).set (H.length + 1) (.cells true 0 [.int .i64 7])) := fun hn => by
      refine rounded_r ?_ ⟨rfl,by rw [h2,nodesP_none hn]; rfl,(xK.set (Nat.le_refl _) _).set (by omega) _,?_,get_set_self (m3' _)⟩
      · rw [List.getElem?_set_ne (by omega),List.getElem?_set_ne (by omega)]; exact hRb
      · rw [List.getElem?_set_ne (by omega)]; exact get_set_self m2
    cases hp1 : numP 7 (Lib.cut w [64]).1 with
    | none =>
      (repeat(first|refine yw ?_|((first|apply yd|apply ye);simp (disch:=first|exact zz|fail) only[go_sem,Option.isSome_none];with_reducible rfl)))
      refine cond_t rfl ?_
      (repeat(first|refine yw ?_|((first|apply yd|apply ye);simp (disch:=first|exact zz|fail) only[go_sem,store_ag1 m2,store_i1 (m3' _)];with_reducible rfl)))
      exact hstop (nodeP_a hp1)
    | some a1 =>
      obtain rfl := f1 a1 hp1
      cases hp2 : numP 13 (Lib.cut w [64]).2.1 with
      | none =>
        (repeat(first|refine yw ?_|((first|apply yd|apply ye);simp (disch:=first|exact zz|fail) only[go_sem,Option.isSome_none,Option.isSome_some];with_reducible rfl)))
        refine cond_t rfl ?_
        (repeat(first|refine yw ?_|((first|apply yd|apply ye);simp (disch:=first|exact zz|fail) only[go_sem,store_ag1 m2,store_i1 (m3' _)];with_reducible rfl)))
        exact hstop (nodeP_b hp2)
      | some a2 =>
        obtain rfl := f2 a2 hp2
        have hnp := nodeP_c hp1 hp2
        rw [nodesP_cons hnp] at h2
        (repeat(first|refine yw ?_|((first|apply yd|apply ye);simp (disch:=first|exact zz|fail) only[go_sem,Option.isSome_some];with_reducible rfl)))
        refine cond_f rfl ?_
        have hlv : loadR (.pointer (some ⟨H.length + 2,0,none⟩)) K2 = some (v,K2) := by rw [load_at h7']; rfl
        have hbl : (G ++ [AObj.dead]).length = G.length + 1 := by simp
        have hpg : ∀ i,i ≤ G.length → (pushPH K2 v ns (n1,n2))[i]? = K2[i]? := fun i hi => push_get h8' (by omega) (by omega) _
        have hp4 : (pushPH K2 v ns (n1,n2))[H.length + 2]? = some (.cells true 0 [v]) := by rw [hpg _ (by omega)]; exact h7'
        have hst : storeR 1 (.pointer (some ⟨H.length + 2,0,none⟩)) (pushV K2 ns.length) (pushPH K2 v ns (n1,n2)) = some (undef,(pushPH K2 v ns (n1,n2)).set (H.length + 2) (.cells true 0 [pushV K2 ns.length])) := store_b1 hp4 rfl rfl
        have hnl : ns.length < 1000000000 := by omega
        (repeat(first|refine yw ?_|((first|apply yd|apply ye);simp (disch:=first|exact zz|fail) only[go_sem,hlv,h8'.push,hst];with_reducible rfl)))
        refine rounded_n ?_ ⟨⟨ws,ns ++ [(n1,n2)],pushV K2 ns.length,rfl,?_,fun x hx => h3 x (List.mem_cons_of_mem _ hx),?_,(h5'.push h8' (by omega) _).set (.inl rfl) _,get_set_self hp4,(h8'.pushed2 (by omega) _).set_lt (by omega) _⟩,?_⟩
        · rw [List.getElem?_set_ne (by omega),hpg _ (Nat.le_refl _)]; exact hRb
        · rw [h2]; cases nodesP ws <;> simp
        · simp at h4 ⊢; omega
        · rw [List.getElem?_set_ne (by omega),hpg _ (by omega)]; exact hkk
  · rintro H' ⟨ws,ns,v,h1,h2,h3,h4,h5,h7,h8⟩
    match ws,h1 with
    | [],_ =>
    have hns : nodesP (cutL 32 l) = some ns := by rw [h2]; show some (ns ++ []) = _; rw [List.append_nil]
    have hp : parseMapL l = if mapErrL ns = 0 then (ns,0) else ([],mapErrL ns) := by
      unfold parseMapL; rw [hns]
    have xK := h5.ext xG (by omega) (by omega)
    have m2 := h5.get k2 (by omega) (by omega)
    have m3 := h5.get k3 (by omega) (by omega)
    have hbl : (G ++ [AObj.dead]).length = G.length + 1 := by simp
    have h9 : OwnP H H' ns v := h8.weaken (by omega)
    obtain ⟨va,vn,vc,rfl⟩ : ∃ a n c,v = .slice a n c := by
      rcases h8.2 with ⟨rfl,_⟩ | ⟨id,rfl,_⟩ <;> exact ⟨_,_,_,rfl⟩
    have hfl : fillA [.slice none 0 0] [(0,1,.agg ⟨[.slice va vn vc]⟩)] = some [.slice va vn vc] := rfl
    have hms : mkSliceL 1 1 (some [.slice va vn vc]) H' = some (.slice (some ⟨H'.length,0,none⟩) 1 1,H' ++ [.cells true 1 [.slice va vn vc]]) := rfl
    (repeat(first|refine yw ?_|((first|apply yd|apply ye);simp (disch:=first|exact zz|fail) only[go_sem,n1_at h7,hfl,hms];with_reducible rfl)))
    have x2 := xK.app [AObj.cells true 1 [.slice va vn vc]]
    have h10 := h9.app [AObj.cells true 1 [.slice va vn vc]]
    have h11 := h8.app [AObj.cells true 1 [.slice va vn vc]]
    have p4 := at_app (N := [AObj.cells true 1 [.slice va vn vc]]) h7
    have p2 := at_app (N := [AObj.cells true 1 [.slice va vn vc]]) m2
    have p3 := at_app (N := [AObj.cells true 1 [.slice va vn vc]]) m3
    have hsl : Sl (H' ++ [AObj.cells true 1 [.slice va vn vc]]) 1 1 [.slice va vn vc] (.slice (some ⟨H'.length,0,none⟩) 1 1) := Sl.last rfl 1
    generalize (H' ++ [AObj.cells true 1 [.slice va vn vc]] : AHeap) = K at x2 h10 h11 p4 p2 p3 hsl
    (refine aops_call_to (spMapErr_c hsl h10.pairs (by omega)) ?_)
    have p3' : ∀ c,(K.set H.length c)[H.length + 1]? = some (.cells true 0 [.int .i64 0]) := fun c => by rw [List.getElem?_set_ne (by omega)]; exact p3
    by_cases he : mapErrL ns = 0
    · rw [if_pos he] at hp
      rw [hp,he]
      (refine yg ?_)
      refine cond_f rfl ?_
      (repeat(first|refine yw ?_|((first|apply yd|apply ye);simp (disch:=first|exact zz|fail) only[go_sem,n1_at p4,store_ag1 (y := .slice va vn vc) p2 rfl,store_i1 (p3' _)];with_reducible rfl)))
      refine fin_ll (n1_at (a := .slice va vn vc) (by rw [List.getElem?_set_ne (by omega)]; exact get_set_self p2)) (load1 (get_set_self (p3' _))) ⟨.slice va vn vc,rfl,(x2.set (Nat.le_refl _) _).set (by omega) _,OwnP.weaken ((h11.set_lt (by omega) _).set_lt (by omega) _) (by omega)⟩
    · rw [if_neg he] at hp
      rw [hp]
      (repeat(first|refine yw ?_|((first|apply yd|apply ye);simp (disch:=first|exact zz|fail) only[go_sem,dec_t (show mapErrL ns ≠ 0 from he)];with_reducible rfl)))
      refine cond_t rfl ?_
      (repeat(first|refine yw ?_|((first|apply yd|apply ye);simp (disch:=first|exact zz|fail) only[go_sem,store_ag1 (y := .slice none 0 0) p2 rfl,store_i1 (p3' _)];with_reducible rfl)))
      exact fin_ll (n1_at (a := .slice none 0 0) (by rw [List.getElem?_set_ne (by omega)]; exact get_set_self p2)) (load1 (get_set_self (p3' _))) ⟨.slice none 0 0,rfl,(x2.set (Nat.le_refl _) _).set (by omega) _,OwnP.nil _ _⟩
  · rintro x H' hx ⟨rfl,h2,h3,h4,h5⟩
    have hp : parseMapL l = ([],7) := by unfold parseMapL; rw [h2]
    rw [hp]
    exact blk_r (seq_r (fin_ll (n1_at h4) (load1 h5) ⟨.slice none 0 0,rfl,h3,OwnP.nil _ _⟩))
end
end Go.Lq

namespace Go.Lq
open Go
open Go.Proofs
theorem cutL_itoa {n : Int} (h : 0 ≤ n) {c : UInt8} (hc : c.toNat < 48 ∨ 57 < c.toNat) : c ∉ Lib.itoa n := fun hm => by
  obtain ⟨u,rfl⟩ : ∃ u : Nat,n = u := ⟨n.toNat,by omega⟩
  rw [itoa_nat] at hm
  have := (dec_all u).1 c hm
  omega
theorem cutL_no {c : UInt8} {a : List UInt8} (h : c ∉ a) : cutL c a = [a] := by
  induction a with
  | nil => rfl
  | cons b r ih =>
    have hb : b ≠ c := fun e => h (by rw [e]; exact List.mem_cons_self ..)
    have hr : c ∉ r := fun e => h (List.mem_cons_of_mem _ e)
    rw [cutL,if_neg hb,ih hr]
theorem num_cut {d n : Int} {t : List UInt8} (h : numP d t = some n) : cutL 64 t = [t] := by
  obtain ⟨h0,_,h2,_⟩ := numP_iff.1 h
  rw [← h2]
  exact cutL_no (cutL_itoa h0 (.inr (by decide)))
theorem cutL_one {c : UInt8} {t x : List UInt8} (h : cutL c t = [x]) : t = x := by
  rw [cut_cutL] at h
  by_cases hf : (Lib.cut t [c]).2.2 = true
  · rw [if_pos hf] at h
    obtain ⟨y,ys,e⟩ := cutL_ne c (Lib.cut t [c]).2.1
    rw [e] at h; cases h
  · rw [if_neg hf] at h; exact (List.cons.inj h).1
theorem node_two {w a b : List UInt8} (h : cutL 64 w = [a,b]) : (Lib.cut w [64]).1 = a ∧ (Lib.cut w [64]).2.1 = b := by
  rw [cut_cutL] at h
  by_cases hf : (Lib.cut w [64]).2.2 = true
  · rw [if_pos hf] at h
    obtain ⟨h1,h2⟩ := List.cons.inj h
    exact ⟨h1,cutL_one h2⟩
  · rw [if_neg hf] at h; cases h
theorem node_not {w : List UInt8} (h : (cutL 64 w).length ≠ 2) : nodeP w = none := by
  rw [cut_cutL] at h
  by_cases hf : (Lib.cut w [64]).2.2 = true
  · rw [if_pos hf] at h
    cases hn : numP 13 (Lib.cut w [64]).2.1 with
    | none => exact nodeP_b hn
    | some n =>
      rw [num_cut hn] at h
      exact absurd rfl h
  · refine nodeP_b ?_
    have : (Lib.cut w [64]).2.1 = [] := by
      unfold Lib.cut at hf ⊢
      split
      · rename_i h0; rw [if_pos h0] at hf; exact absurd rfl hf
      · rfl
    rw [this]; rfl
theorem two {α : Type} {l : List α} (h : l.length = 2) : ∃ a b,l = [a,b] := by
  match l,h with
  | [a,b],_ => exact ⟨a,b,rfl⟩
section
variable {H : AHeap}
set_option maxHeartbeats 4000000 in
theorem rParseMap_c {l : List UInt8} (hl : l.length ≤ 60000) : ACall Go.Proofs.Tryz.prog 68 [.string (bs l)] H fun w H' =>
    w = .tuple #[.agg ⟨[retV H (parseMapL l).1.length]⟩,.int .i64 (parseMapL l).2] ∧ H' = H ++ retN 2 (parseMapL l).1.length (flatP (parseMapL l).1) := by
  refine ACall.tidy (f := fun s => .tuple #[.agg ⟨[s]⟩,.int .i64 (parseMapL l).2]) (wraps_aggT _) (closed_flatP _) ?_
  (refine a68 ?_; simp only [n68,List.replicate,yq,yr,yt,yu]; first | refine q1 ?_ | refine q2 ?_ | refine q6 ?_ | refine q7 ?_ | refine qh rfl ?_ | skip)
  (repeat(first|refine yw ?_|((first|apply yd|apply ye);simp (disch:=first|exact zz|fail) only[go_sem,dec_f (show ¬ (60000 : Int) < (l.length : Int) by omega)];with_reducible rfl)))
  refine cond_f rfl ?_
  (refine yg ?_)
  refine aops_call_to (cut32_c (by omega)) ?_
  obtain ⟨pl,hpl⟩ : ∃ pl,pl = cutL 32 l := ⟨_,rfl⟩
  rw [← hpl]
  have hpm : ∀ x ∈ pl,x.length ≤ 60000 := fun x hx => by have := cutL_piece 32 l x (by rw [← hpl]; exact hx); omega
  have hpn : pl.length ≤ 60001 := by have := cutL_length 32 l; rw [← hpl] at this; omega
  (simp only [List.length_append,List.length_cons,List.length_nil,Nat.zero_add,Nat.add_assoc,Nat.reduceAdd])
  obtain ⟨G,hG⟩ : ∃ G,G = H ++ [AObj.cells true 0 [.slice none 0 0]] ++ [AObj.cells true 0 [.slice none 0 0]] ++ [AObj.cells true 1 (strs pl)] := ⟨_,rfl⟩
  have k2 : G[H.length]? = some (.cells true 0 [.slice none 0 0]) := by rw [hG]; simp
  have k4 : G[H.length + 1]? = some (.cells true 0 [.slice none 0 0]) := by rw [hG]; simp
  have k5 : G[H.length + 2]? = some (.cells true 1 (strs pl)) := by rw [hG]; simp
  have lG : G.length = H.length + 3 := by rw [hG]; simp
  have xG : Ext H G := by rw [hG]; exact (((Ext.refl H).app _).app _).app _
  rw [← hG]
  clear hG
  have tJs : ∀ {J' : AHeap},J'[H.length + 2]? = some (.cells true 1 (strs pl)) → Txts J' pl (.slice (some ⟨H.length + 2,0,none⟩) pl.length pl.length) := fun h => Txts.of_cells h
  generalize (Value.slice (some ⟨H.length + 2,0,none⟩) pl.length pl.length) = sv at tJs
  (refine yg ?_)
  refine awp_loop_n [true,false,true,true,true,true,true,false,false,false,false,false,false,false,false,false,false,false,false,false,false,false,false,false,false,false,false,false,false,false,false,false,false,false,false,false,false,false,false,false,false,false,false,false,false,false,false,false,false,false,false,false,false,false,false,false,false,false,false,false,false,false,false,false,false,false,false,false,false,false] pl.length (fun i e H' => ∃ ns v,e = [.string (bs l),junk,.pointer (some ⟨H.length,0,none⟩),.int .i64 0,.pointer (some ⟨H.length + 1,0,none⟩),sv,.int .i64 (i : Nat),junk,junk,junk,junk,junk,junk,junk,junk,junk,junk,junk,junk,junk,junk,junk,junk,junk,junk,junk,junk,junk,junk,junk,junk,junk,junk,junk,junk,junk,junk,junk,junk,junk,junk,junk,junk,junk,junk,junk,junk,junk,junk,junk,junk,junk,junk,junk,junk,junk,junk,junk,junk,junk,junk,junk,junk,junk,junk,junk,junk,junk,junk,junk] ∧ nodesP pl = (nodesP (pl.drop i)).map (ns ++ ·) ∧ ns.length ≤ i ∧
      Ext H H' ∧ G.length ≤ H'.length ∧ H'[H.length]? = some (.cells true 0 [.slice none 0 0]) ∧ H'[H.length + 1]? = some (.cells true 0 [v]) ∧ H'[H.length + 2]? = some (.cells true 1 (strs pl)) ∧ OwnP G H' ns v) ?_ ?_
  · refine ⟨[],.slice none 0 0,by simp [forget],?_,Nat.le_refl _,xG,Nat.le_refl _,k2,k4,k5,OwnP.nil _ _⟩
    rw [List.drop_zero]; cases nodesP pl <;> simp
  rintro i e H' hi ⟨ns,v,rfl,h2,h4,x1,hg,j2,j4,j5,ho⟩
  have t1 := tJs j5
  (repeat(first|refine yw ?_|((first|apply yd|apply ye);simp (disch:=first|exact zz|fail) only[go_sem,t1.len,t1.idx,t1.load];with_reducible rfl)))
  refine cond_p rfl (fun hlt => ?_) (fun hge => ?_)
  rotate_left 1
  · obtain rfl : i = pl.length := by omega
    rw [List.drop_length] at h2
    have hns : nodesP (cutL 32 l) = some ns := by rw [← hpl,h2]; show some (ns ++ []) = _; rw [List.append_nil]
    have hp : parseMapL l = if mapErrL ns = 0 then (ns,0) else ([],mapErrL ns) := by
      unfold parseMapL; rw [hns]
    have h9 : OwnP H H' ns v := ho.weaken (by omega)
    (repeat(first|refine yw ?_|((first|apply yd|apply ye);simp (disch:=first|exact zz|fail) only[go_sem,n1_at j4];with_reducible rfl)))
    (refine aops_call_to (rMapErr_c h9.pairs (by omega)) ?_)
    by_cases he : mapErrL ns = 0
    · rw [if_pos he] at hp
      rw [hp,he]
      (refine yg ?_)
      refine cond_f rfl ?_
      obtain ⟨va,vn,vc,rfl⟩ : ∃ a n c,v = .slice a n c := by
        rcases ho.2 with ⟨rfl,_⟩ | ⟨id,rfl,_⟩ <;> exact ⟨_,_,_,rfl⟩
      (repeat(first|refine yw ?_|((first|apply yd|apply ye);simp (disch:=first|exact zz|fail) only[go_sem,n1_at j4,store_ag1 (y := .slice va vn vc) j2 rfl];with_reducible rfl)))
      exact fin_l2 (n1_at (get_set_self j2)) ⟨.slice va vn vc,rfl,x1.set (Nat.le_refl _) _,OwnP.weaken (ho.set_lt (by omega) _) (by omega)⟩
    · rw [if_neg he] at hp
      rw [hp]
      (repeat(first|refine yw ?_|((first|apply yd|apply ye);simp (disch:=first|exact zz|fail) only[go_sem,dec_t (show mapErrL ns ≠ 0 from he)];with_reducible rfl)))
      refine cond_t rfl ?_
      (repeat(first|refine yw ?_|((first|apply yd|apply ye);simp (disch:=first|exact zz|fail) only[go_sem,store_ag1 (y := .slice none 0 0) j2 rfl];with_reducible rfl)))
      exact fin_l2 (n1_at (get_set_self j2)) ⟨.slice none 0 0,rfl,x1.set (Nat.le_refl _) _,OwnP.nil _ _⟩
  have hi' : i < pl.length := by omega
  have e1 : (i : Int) + 1 = ((i + 1 : Nat) : Int) := by omega
  have hwm : pl.getD i [] ∈ pl := by rw [List.getD_eq_getElem?_getD,List.getElem?_eq_getElem hi']; exact List.getElem_mem _
  have hwl := hpm _ hwm
  rw [drop_getD (d := ([] : List UInt8)) hi'] at h2
  have hldw := t1.load (Ext.refl _) hi'
  generalize hw : pl.getD i [] = w at hwm hwl h2 hldw
  (repeat(first|refine yw ?_|((first|apply yd|apply ye);simp (disch:=first|exact zz|fail) only[go_sem,t1.idx,hldw];with_reducible rfl)))
  refine aops_call_to (cut64_c (by omega)) ?_
  obtain ⟨ql,hql⟩ : ∃ ql,ql = cutL 64 w := ⟨_,rfl⟩
  rw [← hql]
  have hqm : ∀ x ∈ ql,x.length ≤ 60000 := fun x hx => by have := cutL_piece 64 w x (by rw [← hql]; exact hx); omega
  have tq : Txts (H' ++ [AObj.cells true 1 (strs ql)]) ql (.slice (some ⟨H'.length,0,none⟩) ql.length ql.length) := Sl.last (by simp [strs]) _
  have x2 := x1.app [AObj.cells true 1 (strs ql)]
  have j2 := at_app (N := [AObj.cells true 1 (strs ql)]) j2
  have j4 := at_app (N := [AObj.cells true 1 (strs ql)]) j4
  have j5 := at_app (N := [AObj.cells true 1 (strs ql)]) j5
  have ho := ho.app [AObj.cells true 1 (strs ql)]
  have hg' : G.length ≤ (H' ++ [AObj.cells true 1 (strs ql)]).length := by simp; omega
  generalize (H' ++ [AObj.cells true 1 (strs ql)] : AHeap) = K at tq x2 j2 j4 j5 ho hg'
  generalize (Value.slice (some ⟨H'.length,0,none⟩) ql.length ql.length) = qv at tq
  have hbad : nodeP w = none → parseMapL l = ([],7) := fun hn => by
    unfold parseMapL; rw [← hpl,h2,nodesP_none hn]; rfl
  by_cases hq2 : ql.length = 2
  rotate_left 1
  · rw [hbad (node_not (by rw [← hql]; exact hq2))]
    (repeat(first|refine yw ?_|((first|apply yd|apply ye);simp (disch:=first|exact zz|fail) only[go_sem,tq.len,tq.idx,tq.load,dec_t (show ((ql.length : Nat) : Int) ≠ 2 by omega)];with_reducible rfl)))
    refine cond_t rfl ?_
    (repeat(first|refine yw ?_|((first|apply yd|apply ye);simp (disch:=first|exact zz|fail) only[go_sem,store_ag1 (y := .slice none 0 0) j2 rfl];with_reducible rfl)))
    exact fin_l2 (n1_at (get_set_self j2)) ⟨.slice none 0 0,rfl,x2.set (Nat.le_refl _) _,OwnP.nil _ _⟩
  obtain ⟨pa,ta,hqe⟩ := two hq2
  obtain ⟨ca,cb⟩ := node_two (w := w) (a := pa) (b := ta) (by rw [← hql]; exact hqe)
  have hpa : pa.length ≤ 60000 := hqm _ (by rw [hqe]; simp)
  have hta : ta.length ≤ 60000 := hqm _ (by rw [hqe]; simp)
  have hi0 : idxR 1 qv (.int .i64 0) K = some (addrOf qv 0,K) := tq.idx (i := 0) (by omega) (by omega)
  have hi1 : idxR 1 qv (.int .i64 1) K = some (addrOf qv 1,K) := tq.idx (i := 1) (by omega) (by omega)
  have hl0 : loadR (addrOf qv 0) K = some (.string (bs pa),K) := by rw [tq.load (Ext.refl _) (by omega),hqe]; rfl
  have hl1 : loadR (addrOf qv 1) K = some (.string (bs ta),K) := by rw [tq.load (Ext.refl _) (by omega),hqe]; rfl
  (repeat(first|refine yw ?_|((first|apply yd|apply ye);simp (disch:=first|exact zz|fail) only[go_sem,tq.len,dec_f (show ¬ ((ql.length : Nat) : Int) ≠ 2 by omega)];with_reducible rfl)))
  refine cond_f rfl ?_
  (repeat(first|refine yw ?_|((first|apply yd|apply ye);simp (disch:=first|exact zz|fail) only[go_sem,hi0,hl0];with_reducible rfl)))
  refine aops_call ((refNum2_c (l := pa) (d := 7) (by decide) (by omega)).mono fun v1 K1 ⟨⟨n1,e2,f1⟩,e⟩ => ?_)
  subst e
  subst e2
  (repeat(first|refine yw ?_|((first|apply yd|apply ye);simp (disch:=first|exact zz|fail) only[go_sem,hi1,hl1];with_reducible rfl)))
  refine aops_call ((refNum2_c (l := ta) (d := 13) (by decide) (by omega)).mono fun v2 K2 ⟨⟨n2,e2,f2⟩,e⟩ => ?_)
  subst e
  subst e2
  cases hp1 : numP 7 pa with
  | none =>
    rw [hbad (nodeP_a (by rw [ca]; exact hp1))]
    (repeat(first|refine yw ?_|((first|apply yd|apply ye);simp (disch:=first|exact zz|fail) only[go_sem,Option.isSome_none];with_reducible rfl)))
    refine cond_t rfl ?_
    (repeat(first|refine yw ?_|((first|apply yd|apply ye);simp (disch:=first|exact zz|fail) only[go_sem,store_ag1 (y := .slice none 0 0) j2 rfl];with_reducible rfl)))
    exact fin_l2 (n1_at (get_set_self j2)) ⟨.slice none 0 0,rfl,x2.set (Nat.le_refl _) _,OwnP.nil _ _⟩
  | some a1 =>
    obtain rfl := f1 a1 hp1
    cases hp2 : numP 13 ta with
    | none =>
      rw [hbad (nodeP_b (by rw [cb]; exact hp2))]
      (repeat(first|refine yw ?_|((first|apply yd|apply ye);simp (disch:=first|exact zz|fail) only[go_sem,Option.isSome_none,Option.isSome_some];with_reducible rfl)))
      refine cond_t rfl ?_
      (repeat(first|refine yw ?_|((first|apply yd|apply ye);simp (disch:=first|exact zz|fail) only[go_sem,store_ag1 (y := .slice none 0 0) j2 rfl];with_reducible rfl)))
      exact fin_l2 (n1_at (get_set_self j2)) ⟨.slice none 0 0,rfl,x2.set (Nat.le_refl _) _,OwnP.nil _ _⟩
    | some a2 =>
      obtain rfl := f2 a2 hp2
      have hnp := nodeP_c (w := w) (by rw [ca]; exact hp1) (by rw [cb]; exact hp2)
      rw [nodesP_cons hnp] at h2
      (repeat(first|refine yw ?_|((first|apply yd|apply ye);simp (disch:=first|exact zz|fail) only[go_sem,Option.isSome_some];with_reducible rfl)))
      refine cond_f rfl ?_
      have hlv : loadR (.pointer (some ⟨H.length + 1,0,none⟩)) K2 = some (v,K2) := load1 j4
      have hpg : ∀ i,i < G.length → (pushPH K2 v ns (n1,n2))[i]? = K2[i]? := fun i hi => push_get ho hi (by omega) _
      have hp4 : (pushPH K2 v ns (n1,n2))[H.length + 1]? = some (.cells true 0 [v]) := by rw [hpg _ (by omega)]; exact j4
      have hst : storeR 1 (.pointer (some ⟨H.length + 1,0,none⟩)) (pushV K2 ns.length) (pushPH K2 v ns (n1,n2)) = some (undef,(pushPH K2 v ns (n1,n2)).set (H.length + 1) (.cells true 0 [pushV K2 ns.length])) := store_b1 hp4 rfl rfl
      have hnl : ns.length < 1000000000 := by omega
      have hox : OwnP H K2 ns v := ho.weaken (by omega)
      (repeat(first|refine yw ?_|((first|apply yd|apply ye);simp (disch:=first|exact zz|fail) only[go_sem,hlv,ho.push,hst,e1];with_reducible rfl)))
      refine ⟨by omega,ns ++ [(n1,n2)],pushV K2 ns.length,by simp [forget],?_,by simp; omega,(hox.ext x2 _).set (by omega) _,?_,?_,get_set_self hp4,?_,(ho.pushed2 hg' _).set_lt (by omega) _⟩
      · rw [h2]; cases nodesP (pl.drop (i + 1)) <;> simp
      · have := (ho.pushed2 hg' (n1,n2))
        simp [pushPH,appH_len]; omega
      · rw [List.getElem?_set_ne (by omega),hpg _ (by omega)]; exact j2
      · rw [List.getElem?_set_ne (by omega),hpg _ (by omega)]; exact j5
end
end Go.Lq

namespace Go.Lq
open Go
open Go.Proofs
theorem cutL_none {c : UInt8} {a : List UInt8} (h : c ∉ a) : cutL c a = [a] := by
  induction a with
  | nil => rfl
  | cons b r ih =>
    have hb : b ≠ c := fun e => h (by rw [e]; exact List.mem_cons_self ..)
    have hr : c ∉ r := fun e => h (List.mem_cons_of_mem _ e)
    rw [cutL,if_neg hb,ih hr]
theorem cutL_join {c : UInt8} {a : List UInt8} (h : c ∉ a) (r : List UInt8) : cutL c (a ++ c :: r) = a :: cutL c r := by
  induction a with
  | nil => show cutL c (c :: r) = _; rw [cutL,if_pos rfl]
  | cons b s ih =>
    have hb : b ≠ c := fun e => h (by rw [e]; exact List.mem_cons_self ..)
    have hs : c ∉ s := fun e => h (List.mem_cons_of_mem _ e)
    show cutL c (b :: (s ++ c :: r)) = _
    rw [cutL,if_neg hb,ih hs]
theorem itoa_digits {n : Int} (h : 0 ≤ n) {c : UInt8} (hc : c.toNat < 48) : c ∉ Lib.itoa n := fun hm => by
  obtain ⟨u,rfl⟩ : ∃ u : Nat,n = u := ⟨n.toNat,by omega⟩
  rw [itoa_nat] at hm
  have := (dec_all u).1 c hm
  omega
theorem nDigits_le : ∀ (k u : Nat),1 ≤ k → u < 10 ^ k → Lib.nDigits u ≤ k
  | 0,u,h,_ => by omega
  | k + 1,u,_,h => by
    by_cases hu : u < 10
    · rw [Lib.nDigits_small hu]; omega
    · rw [Lib.nDigits_big hu]
      have hk : 1 ≤ k := by
        rcases Nat.eq_zero_or_pos k with rfl | hk
        · simp at h; omega
        · exact hk
      have := nDigits_le k (u / 10) hk (by rw [Nat.pow_succ] at h; omega)
      omega
theorem numP_itoa {d k : Nat} {n : Int} (hk : 1 ≤ k) (hkd : k ≤ d) (h0 : 0 ≤ n) (h1 : n < (10 ^ k : Nat)) (h2 : n ≤ 9223372036854775807) : numP d (Lib.itoa n) = some n := by
  rw [numP_iff]
  refine ⟨h0,h2,rfl,?_⟩
  obtain ⟨u,rfl⟩ : ∃ u : Nat,n = u := ⟨n.toNat,by omega⟩
  rw [itoa_nat,Lib.decDigits_length]
  have := nDigits_le k u hk (by exact_mod_cast h1)
  omega
end Go.Lq

namespace Go.Lq
open Go
open Go.Proofs
theorem node_text {p : Int × Int} (h1 : 0 ≤ p.1 ∧ p.1 ≤ 1000000) (h2 : 0 ≤ p.2 ∧ p.2 ≤ 1000000000000) : nodeP (nodeT p) = some p ∧ 32 ∉ nodeT p := by
  have h7 : ((10 ^ 7 : Nat) : Int) = 10000000 := by decide
  have h13 : ((10 ^ 13 : Nat) : Int) = 10000000000000 := by decide
  have e : cutL 64 (nodeT p) = [Lib.itoa p.1,Lib.itoa p.2] := by
    unfold nodeT
    rw [List.append_assoc]
    show cutL 64 (Lib.itoa p.1 ++ 64 :: Lib.itoa p.2) = _
    rw [cutL_join (cutL_itoa h1.1 (.inr (by decide))),cutL_none (cutL_itoa h2.1 (.inr (by decide)))]
  obtain ⟨a,b⟩ := node_two e
  refine ⟨nodeP_c (a := p.1) (b := p.2) ?_ ?_,?_⟩
  · rw [a,show (7 : Int) = ((7 : Nat) : Int) from rfl]
    exact numP_itoa (k := 7) (by decide) (by decide) h1.1 (by rw [h7]; omega) (by omega)
  · rw [b,show (13 : Int) = ((13 : Nat) : Int) from rfl]
    exact numP_itoa (k := 13) (by decide) (by decide) h2.1 (by rw [h13]; omega) (by omega)
  · unfold nodeT
    simp only [List.mem_append,List.mem_singleton,not_or]
    exact ⟨⟨itoa_digits h1.1 (by decide),by decide⟩,itoa_digits h2.1 (by decide)⟩
def NodeOk (p : Int × Int) : Prop := (0 ≤ p.1 ∧ p.1 ≤ 1000000) ∧ (0 ≤ p.2 ∧ p.2 ≤ 1000000000000)
theorem cut_map : ∀ (l : List (Int × Int)),l ≠ [] → (∀ p ∈ l,NodeOk p) → cutL 32 (mapT l) = nodesT l
  | [],h,_ => absurd rfl h
  | [p],_,h => by
    have hp := h p (by simp)
    show cutL 32 (Lib.join [nodeT p] [32]) = [nodeT p]
    rw [Lib.join_one,cutL_none (node_text hp.1 hp.2).2]
  | p :: q :: r,_,h => by
    have hp := h p (by simp)
    have ih := cut_map (q :: r) (by simp) fun x hx => h x (List.mem_cons_of_mem _ hx)
    have e : mapT (p :: q :: r) = nodeT p ++ 32 :: mapT (q :: r) := by
      unfold mapT
      show Lib.join (nodeT p :: nodeT q :: nodesT r) [32] = _ ++ 32 :: Lib.join (nodeT q :: nodesT r) [32]
      rw [Lib.join_cons,Lib.join_cons]
      simp [Lib.joinTail]
    rw [e,cutL_join (node_text hp.1 hp.2).2,ih]
    rfl
theorem nodes_back : ∀ (l : List (Int × Int)),(∀ p ∈ l,NodeOk p) → nodesP (nodesT l) = some l
  | [],_ => rfl
  | p :: r,h => by
    have hp := h p (by simp)
    show nodesP (nodeT p :: nodesT r) = _
    rw [nodesP_cons (node_text hp.1 hp.2).1,nodes_back r fun x hx => h x (List.mem_cons_of_mem _ hx)]
    rfl
theorem parse_map {l : List (Int × Int)} (he : mapErrL l = 0) (hn : l ≠ []) (h : ∀ p ∈ l,NodeOk p) : parseMapL (mapT l) = (l,0) := by
  unfold parseMapL
  rw [cut_map l hn h,nodes_back l h]
  show (if mapErrL l = 0 then (l,0) else ([],mapErrL l)) = _
  rw [if_pos he]
end Go.Lq

namespace Go.Lq
open Go
def trimM (l : List UInt8) : List UInt8 := match l with | b :: r => if b = 45 then r else l | [] => []
theorem trimM_minus (r : List UInt8) : trimM (45 :: r) = r := by simp [trimM]
theorem trimM_plain {b : UInt8} (h : b ≠ 45) (r : List UInt8) : trimM (b :: r) = b :: r := by simp [trimM,h]
def numS (d : Int) (l : List UInt8) : Option Int := match Lib.atoiAll l with | .ok n => if Lib.itoa n = l ∧ ((trimM l).length : Int) ≤ d then some n else none | _ => none
theorem itoa_neg {u : Nat} (h : 0 < u) : Lib.itoa (-(u : Int)) = 45 :: Lib.decDigits u := by
  unfold Lib.itoa
  rw [if_pos (by omega),Int.natAbs_neg,Int.natAbs_natCast]
theorem parse_big : ∀ (l : List UInt8) (acc : Nat),allD l → valF acc l < 18446744073709551616 → Lib.parseUint10 acc l = .ok (valF acc l)
  | [],acc,_,_ => rfl
  | b :: r,acc,h,hv => by
    have hb := h b (List.mem_cons_self ..)
    rw [valF_cons] at hv ⊢
    have hge := valF_ge r (10 * acc + (b.toNat - 48))
    rw [Lib.parseUint10,if_pos hb,if_neg (by omega),if_neg (by omega),Nat.mul_comm acc 10]
    exact parse_big r _ (fun x hx => h x (List.mem_cons_of_mem _ hx)) hv
theorem atoi_itoa {n : Int} (h0 : -9223372036854775808 ≤ n) (h1 : n ≤ 9223372036854775807) : Lib.atoiAll (Lib.itoa n) = .ok n := by
  by_cases hn : 0 ≤ n
  · obtain ⟨u,rfl⟩ : ∃ u : Nat,n = u := ⟨n.toNat,by omega⟩
    rw [itoa_nat]; exact atoi_dec (by omega)
  · obtain ⟨u,rfl⟩ : ∃ u : Nat,n = -(u : Int) := ⟨n.natAbs,by omega⟩
    rw [itoa_neg (by omega),Lib.atoiAll_minus]
    obtain ⟨h2,h3,b,r,h4,_⟩ := dec_all u
    unfold Lib.parseMag
    rw [if_neg (by rw [h4]; simp),parse_big _ _ h2 (by rw [h3]; omega),h3]
    simp only [Lib.signed]
    rw [if_neg (by omega)]
theorem numS_iff {d n : Int} {l : List UInt8} : numS d l = some n ↔ (-9223372036854775808 ≤ n ∧ n ≤ 9223372036854775807 ∧ Lib.itoa n = l ∧ ((trimM l).length : Int) ≤ d) := by
  constructor
  · intro h
    unfold numS at h
    split at h
    · rename_i m hm
      split at h
      · rename_i hc
        cases h
        exact ⟨(Lib.atoiAll_bounds hm).1,(Lib.atoiAll_bounds hm).2,hc⟩
      · cases h
    · cases h
  · rintro ⟨h0,h1,h2,h3⟩
    have e : Lib.atoiAll l = .ok n := by rw [← h2]; exact atoi_itoa h0 h1
    unfold numS
    rw [e]
    simp [h2,h3]
theorem at8_cons (b : UInt8) (r : List UInt8) : at8 (b :: r) 0 = ((b.toNat : Nat) : Int) := rfl
theorem numB_iff {d n : Int} {l : List UInt8} (hd : d ≤ 18) : numB d l = some n ↔ (Lib.itoa n = l ∧ ((trimM l).length : Int) ≤ d) := by
  match l with
  | [] =>
    constructor
    · intro h; exact absurd (numB_pos h) (by simp)
    · rintro ⟨h,_⟩
      exfalso
      by_cases hn : 0 ≤ n
      · obtain ⟨u,rfl⟩ : ∃ u : Nat,n = u := ⟨n.toNat,by omega⟩
        obtain ⟨_,_,b,r,h4,_⟩ := dec_all u
        rw [itoa_nat,h4] at h; cases h
      · obtain ⟨u,rfl⟩ : ∃ u : Nat,n = -(u : Int) := ⟨n.natAbs,by omega⟩
        rw [itoa_neg (by omega)] at h; cases h
  | b :: r =>
    by_cases hb : b = 45
    · subst hb
      have hs : signAt (45 :: r) = 1 := by unfold signAt; rw [if_pos ⟨by simp,by rfl⟩]
      have ha1 : at8 (45 :: r) ((1 : Nat) : Int) = at8 r 0 := rfl
      have hN : numB d (45 :: r) = if r.length = 0 ∨ d < (r.length : Int) ∨ at8 r 0 = 48 ∧ 0 < r.length then none else (digV 0 r).map fun n => -n := by
        unfold numB
        rw [hs,ha1]
        have e1 : (((45 : UInt8) :: r).length : Int) = ((r.length : Nat) : Int) + 1 := by simp
        rw [e1]
        have hiff : (((r.length : Nat) : Int) + 1 = ((1 : Nat) : Int) ∨ d < ((r.length : Nat) : Int) + 1 - ((1 : Nat) : Int) ∨ at8 r 0 = 48 ∧ 1 < ((r.length : Nat) : Int) + 1) ↔ (r.length = 0 ∨ d < (r.length : Int) ∨ at8 r 0 = 48 ∧ 0 < r.length) := by
          constructor
          · intro h
            rcases h with h | h | ⟨h,h'⟩
            · left; omega
            · right; left; omega
            · right; right; exact ⟨h,by omega⟩
          · intro h
            rcases h with h | h | ⟨h,h'⟩
            · left; omega
            · right; left; omega
            · right; right; exact ⟨h,by omega⟩
        by_cases hc : r.length = 0 ∨ d < (r.length : Int) ∨ at8 r 0 = 48 ∧ 0 < r.length
        · rw [if_pos hc,if_pos (hiff.2 hc)]
        · rw [if_neg hc,if_neg fun h => hc (hiff.1 h)]
          simp
      rw [trimM_minus]
      constructor
      · intro h
        rw [hN] at h
        split at h
        · cases h
        · rename_i hc
          have hr : r ≠ [] := fun e => hc (.inl (by rw [e]; rfl))
          have hpos := List.length_pos_iff.2 hr
          cases hv : digV 0 r with
          | none => rw [hv] at h; cases h
          | some k =>
            rw [hv] at h
            obtain rfl : -k = n := by simpa using h
            have hall := digV_some r 0 k hv
            have hv2 := digV_all r 0 hall
            have e : k = (valF 0 r : Nat) := by
              have : some k = some ((valF 0 r : Nat) : Int) := hv.symm.trans hv2
              exact Option.some.inj this
            have hdv := dec_val r hall hr fun h48 => absurd (⟨h48,hpos⟩ : at8 r 0 = 48 ∧ 0 < r.length) (fun h => hc (.inr (.inr h)))
            have h0 : 0 < valF 0 r := by
              rcases Nat.eq_zero_or_pos (valF 0 r) with h0 | h0
              · exfalso
                rw [h0,Lib.decDigits_one (by decide)] at hdv
                apply hc; right; right
                rw [← hdv]; exact ⟨rfl,by simp⟩
              · exact h0
            rw [e,itoa_neg h0,hdv]
            exact ⟨rfl,by omega⟩
      · rintro ⟨h1,h2⟩
        by_cases hn : 0 ≤ n
        · obtain ⟨u,rfl⟩ : ∃ u : Nat,n = u := ⟨n.toNat,by omega⟩
          obtain ⟨h3,_,b,r',h4,_⟩ := dec_all u
          rw [itoa_nat] at h1
          have := h3 45 (by rw [h1]; simp)
          have e45 : (45 : UInt8).toNat = 45 := rfl
          omega
        · obtain ⟨u,rfl⟩ : ∃ u : Nat,n = -(u : Int) := ⟨n.natAbs,by omega⟩
          rw [itoa_neg (by omega)] at h1
          have h1 : Lib.decDigits u = r := by simpa using h1
          obtain ⟨h3,h4,c,r',h5,h6⟩ := dec_all u
          rw [h1] at h3 h4 h5
          have hv := digV_all r 0 h3
          rw [h4] at hv
          rw [hN,if_neg]
          · have hv : digV 0 r = some (u : Int) := hv
            rw [hv]; rfl
          · rintro (h | h | ⟨h,h'⟩)
            · rw [h5] at h; simp at h
            · omega
            · rw [h5,at8_cons] at h
              have := h6 (by omega)
              omega
    · have h45 : b.toNat ≠ 45 := fun e => hb (UInt8.toNat_inj.1 e)
      have hR : numR d (b :: r) = numB d (b :: r) := by
        unfold numR
        cases numB d (b :: r) with
        | none => rfl
        | some m => simp only; rw [if_pos (by rw [at8_cons]; omega)]
      rw [← hR,numR_iff hd,trimM_plain hb]
      constructor
      · rintro ⟨_,h⟩; exact h
      · rintro ⟨h1,h2⟩
        refine ⟨?_,h1,h2⟩
        by_cases hn : 0 ≤ n
        · exact hn
        · exfalso
          obtain ⟨u,rfl⟩ : ∃ u : Nat,n = -(u : Int) := ⟨n.natAbs,by omega⟩
          rw [itoa_neg (by omega)] at h1
          exact hb (List.cons.inj h1).1.symm
theorem numSB {d : Int} {l : List UInt8} (hd : d ≤ 18) : numS d l = numB d l := by
  apply Option.ext
  intro n
  rw [numS_iff,numB_iff hd]
  constructor
  · rintro ⟨_,_,h2,h3⟩; exact ⟨h2,h3⟩
  · rintro ⟨h2,h3⟩
    have hb : ∀ u : Nat,(Lib.decDigits u).length ≤ 18 → u < 1000000000000000000 := fun u hu => by
      have hlt := Lib.lt_pow_nDigits u
      rw [← Lib.decDigits_length] at hlt
      have : (10 : Nat) ^ (Lib.decDigits u).length ≤ 10 ^ 18 := Nat.pow_le_pow_right (by decide) hu
      have h18 : (10 : Nat) ^ 18 = 1000000000000000000 := by decide
      omega
    by_cases hn : 0 ≤ n
    · obtain ⟨u,rfl⟩ : ∃ u : Nat,n = u := ⟨n.toNat,by omega⟩
      have h2' := h2
      rw [itoa_nat] at h2'
      obtain ⟨h4,_,b,r,h6,_⟩ := dec_all u
      have hb45 : b ≠ 45 := fun e => by
        have := h4 b (by rw [h6]; simp)
        rw [e] at this
        have e45 : (45 : UInt8).toNat = 45 := rfl
        omega
      have ht : trimM l = Lib.decDigits u := by rw [← h2',h6,trimM_plain hb45]
      have := hb u (by rw [← ht]; omega)
      exact ⟨by omega,by omega,h2,h3⟩
    · obtain ⟨u,rfl⟩ : ∃ u : Nat,n = -(u : Int) := ⟨n.natAbs,by omega⟩
      have h2' := h2
      rw [itoa_neg (by omega)] at h2'
      have ht : trimM l = Lib.decDigits u := by rw [← h2',trimM_minus]
      have := hb u (by rw [← ht]; omega)
      exact ⟨by omega,by omega,h2,h3⟩
end Go.Lq

namespace Go.Lq
open Go
def wordsT (l : List Int) : List (List UInt8) := l.map Lib.itoa
def pathT (l : List Int) : List UInt8 := Lib.join (wordsT l) [32]
def InW (l : List Int) : Prop := ∀ n ∈ l,i64 n
theorem itoa_len {n : Int} (h : i64 n) : (Lib.itoa n).length ≤ 21 := Lib.itoa_length_le n h.1 h.2
theorem pathTail_length {l : List Int} (h : InW l) : (Lib.joinTail [32] (wordsT l)).length ≤ 22 * l.length := by
  induction l with
  | nil => simp [wordsT,Lib.joinTail]
  | cons p r ih =>
    have hp := itoa_len (h p (List.mem_cons_self ..))
    have hr := ih fun q hq => h q (List.mem_cons_of_mem _ hq)
    have e : Lib.joinTail [32] (wordsT (p :: r)) = [32] ++ Lib.itoa p ++ Lib.joinTail [32] (wordsT r) := by simp [Lib.joinTail,wordsT]
    rw [e]
    simp only [List.length_append,List.length_cons,List.length_nil]
    omega
theorem pathT_length {l : List Int} (h : InW l) : (pathT l).length ≤ 22 * l.length := by
  cases l with
  | nil => simp [pathT,wordsT,Lib.join_nil]
  | cons p r =>
    have hp := itoa_len (h p (List.mem_cons_self ..))
    have hr := pathTail_length (l := r) fun q hq => h q (List.mem_cons_of_mem _ hq)
    have e : pathT (p :: r) = Lib.itoa p ++ Lib.joinTail [32] (wordsT r) := by
      unfold pathT
      show Lib.join (Lib.itoa p :: wordsT r) [32] = _
      rw [Lib.join_cons]
    rw [e]
    simp only [List.length_append,List.length_cons]
    omega
theorem InW.take {l : List Int} (h : InW l) (i : Nat) : InW (l.take i) := fun p hp => h p (List.mem_of_mem_take hp)
theorem InW.get {l : List Int} (h : InW l) {i : Nat} (hi : i < l.length) : i64 (l.getD i 0) := by
  have : l.getD i 0 ∈ l := by rw [List.getD_eq_getElem?_getD,List.getElem?_eq_getElem hi]; exact List.getElem_mem _
  exact h _ this
theorem wordsT_take {l : List Int} {i : Nat} (hi : i < l.length) : wordsT (l.take (i + 1)) = wordsT (l.take i) ++ [Lib.itoa (l.getD i 0)] := by
  unfold wordsT
  rw [List.take_succ_eq_append_getElem hi,List.map_append]
  simp [List.getD,hi]
theorem pathT_snoc {l : List Int} {i : Nat} (hi : i < l.length) : pathT (l.take (i + 1)) = pathT (l.take i) ++ (if 0 < i then [32] else []) ++ Lib.itoa (l.getD i 0) := by
  unfold pathT
  rw [wordsT_take hi]
  cases i with
  | zero => simp [wordsT,Lib.join_nil,Lib.join_one]
  | succ k =>
    have hne : ∃ p r,l.take (k + 1) = p :: r := by
      match l,hi with
      | p :: r,_ => exact ⟨p,r.take k,rfl⟩
    obtain ⟨p,r,e⟩ := hne
    rw [e]
    show Lib.join (Lib.itoa p :: (wordsT r ++ [_])) [32] = Lib.join (Lib.itoa p :: wordsT r) [32] ++ _ ++ _
    rw [Lib.join_cons,Lib.join_cons]
    simp [Lib.joinTail,List.append_assoc]
theorem itoa_blank (n : Int) {c : UInt8} (hc : c.toNat < 45) : c ∉ Lib.itoa n := by
  by_cases hn : 0 ≤ n
  · exact itoa_digits hn (by omega)
  · obtain ⟨u,rfl⟩ : ∃ u : Nat,n = -(u : Int) := ⟨n.natAbs,by omega⟩
    rw [itoa_neg (by omega)]
    intro h
    rcases List.mem_cons.1 h with rfl | h
    · exact absurd hc (by decide)
    · have := (dec_all u).1 c h; omega
theorem cut_path : ∀ (l : List Int),l ≠ [] → cutL 32 (pathT l) = wordsT l
  | [],h => absurd rfl h
  | [p],_ => by
    show cutL 32 (Lib.join [Lib.itoa p] [32]) = [Lib.itoa p]
    rw [Lib.join_one,cutL_none (itoa_blank p (by decide))]
  | p :: q :: r,_ => by
    have ih := cut_path (q :: r) (by simp)
    have e : pathT (p :: q :: r) = Lib.itoa p ++ 32 :: pathT (q :: r) := by
      unfold pathT
      show Lib.join (Lib.itoa p :: Lib.itoa q :: wordsT r) [32] = _ ++ 32 :: Lib.join (Lib.itoa q :: wordsT r) [32]
      rw [Lib.join_cons,Lib.join_cons]
      simp [Lib.joinTail]
    rw [e,cutL_join (itoa_blank p (by decide)),ih]
    rfl
def numsS (d : Int) : List (List UInt8) → Option (List Int)
  | [] => some []
  | w :: ws => match numS d w with | some n => (numsS d ws).map (n :: ·) | none => none
theorem numsS_cons {d : Int} {w : List UInt8} {ws : List (List UInt8)} {n : Int} (h : numS d w = some n) : numsS d (w :: ws) = (numsS d ws).map (n :: ·) := by
  rw [numsS,h]
  first | done | rfl
theorem numsS_none {d : Int} {w : List UInt8} {ws : List (List UInt8)} (h : numS d w = none) : numsS d (w :: ws) = none := by
  rw [numsS,h]
  first | done | rfl
theorem trimM_itoa_le {n : Int} {k : Nat} (hk : 1 ≤ k) (h0 : -(10 ^ k : Nat) < n) (h1 : n < (10 ^ k : Nat)) : (trimM (Lib.itoa n)).length ≤ k := by
  by_cases hn : 0 ≤ n
  · obtain ⟨u,rfl⟩ : ∃ u : Nat,n = u := ⟨n.toNat,by omega⟩
    obtain ⟨h4,_,b,r,h6,_⟩ := dec_all u
    have hb45 : b ≠ 45 := fun e => by
      have := h4 b (by rw [h6]; simp)
      rw [e] at this
      have e45 : (45 : UInt8).toNat = 45 := rfl
      omega
    rw [itoa_nat,h6,trimM_plain hb45,← h6,Lib.decDigits_length]
    exact nDigits_le k u hk (by exact_mod_cast h1)
  · obtain ⟨u,rfl⟩ : ∃ u : Nat,n = -(u : Int) := ⟨n.natAbs,by omega⟩
    rw [itoa_neg (by omega),trimM_minus,Lib.decDigits_length]
    exact nDigits_le k u hk (by omega)
theorem numS_itoa {d k : Nat} {n : Int} (hk : 1 ≤ k) (hkd : k ≤ d) (h0 : -(10 ^ k : Nat) < n) (h1 : n < (10 ^ k : Nat)) (h2 : i64 n) : numS d (Lib.itoa n) = some n := by
  rw [numS_iff]
  have := trimM_itoa_le hk h0 h1
  exact ⟨h2.1,h2.2,rfl,by omega⟩
theorem nums_back {d k : Nat} (hk : 1 ≤ k) (hkd : k ≤ d) : ∀ (l : List Int),(∀ n ∈ l,-((10 ^ k : Nat) : Int) < n ∧ n < ((10 ^ k : Nat) : Int) ∧ i64 n) → numsS d (wordsT l) = some l
  | [],_ => rfl
  | p :: r,h => by
    have hp := h p (by simp)
    show numsS d (Lib.itoa p :: wordsT r) = _
    rw [numsS_cons (numS_itoa hk hkd hp.1 hp.2.1 hp.2.2),nums_back hk hkd r fun x hx => h x (List.mem_cons_of_mem _ hx)]
    rfl
end Go.Lq

namespace Go.Lq
open Go
open Go.Proofs
section
variable {H : AHeap} {l : List Int} {v : Value}
theorem trimM_eq (l : List UInt8) : Lib.trimPrefix l [45] = trimM l := by
  match l with
  | [] => rfl
  | b :: r =>
    unfold Lib.trimPrefix Lib.hasPrefix
    by_cases hb : b = 45
    · subst hb; simp [trimM,List.isPrefixOf]
    · rw [trimM_plain hb,if_neg]
      simp [List.isPrefixOf]
      exact fun h => hb h.symm
theorem trim_c {l : List UInt8} : ACall Go.Proofs.Tryz.prog 42 [.string (bs l),.string (bs [45])] H fun v H' => v = .string (bs (trimM l)) ∧ H' = H := by
  refine ACall.of_calls ⟨_,Go.Proofs.Tryz.func42,by kernel_rfl,by kernel_rfl⟩ fun base β w cargs hi hv => ?_
  obtain ⟨y,y',e,h,h'⟩ := VRs.two hv
  obtain rfl := h.str
  obtain rfl := h'.str
  rw [cargs2 e]
  refine (Go.Proofs.Tryz.strings_TrimPrefix (bs l) (bs [45]) w).mono fun e' w' ⟨he,hw⟩ => ?_
  subst hw
  rw [bs_data,bs_data,trimM_eq,bs_mk] at he
  exact ⟨_,_,he,.string _,⟨rfl,rfl⟩,RowKit.Below.refl _ _⟩
end
end Go.Lq

namespace Go.Lq
open Go
open Go.Proofs
def NumResS (d : Int) (l : List UInt8) (v : Value) : Prop := ∃ n,v = .tuple #[.int .i64 n,.bool (numS d l).isSome] ∧ ∀ m,numS d l = some m → n = m
theorem numSn {w : List UInt8} {d : Int} (h : ∀ n,Lib.atoiAll w ≠ .ok n) : numS d w = none := by
  unfold numS
  split
  · rename_i n hn; exact absurd hn (h n)
  · rfl
theorem numSb {w : List UInt8} {n d : Int} (h : Lib.atoiAll w = .ok n) (hb : ¬ (Lib.itoa n = w ∧ ((trimM w).length : Int) ≤ d)) : numS d w = none := by
  unfold numS
  rw [h]
  show (if _ then _ else _) = _
  rw [if_neg hb]
theorem numSo {w : List UInt8} {n d : Int} (h : Lib.atoiAll w = .ok n) (hb : Lib.itoa n = w ∧ ((trimM w).length : Int) ≤ d) : numS d w = some n := by
  unfold numS
  rw [h]
  show (if _ then _ else _) = _
  rw [if_pos hb]
theorem numS_numP {d : Int} {l : List UInt8} : numP d l = match numS d l with | some n => if 0 ≤ n then some n else none | none => none := by
  apply Option.ext
  intro n
  rw [numP_iff]
  have key : ∀ m : Int,0 ≤ m → Lib.itoa m = l → trimM l = l := fun m hm e => by
    obtain ⟨u,rfl⟩ : ∃ u : Nat,m = u := ⟨m.toNat,by omega⟩
    obtain ⟨h4,_,b,r,h6,_⟩ := dec_all u
    have hb45 : b ≠ 45 := fun e => by
      have := h4 b (by rw [h6]; simp)
      rw [e] at this
      have e45 : (45 : UInt8).toNat = 45 := rfl
      omega
    rw [← e,itoa_nat,h6,trimM_plain hb45]
  cases hs : numS d l with
  | none =>
    constructor
    · rintro ⟨h0,h1,h2,h3⟩
      have := numS_iff (d := d) (n := n) (l := l)
      rw [hs] at this
      have := this.2 ⟨by omega,h1,h2,by rw [key n h0 h2]; exact h3⟩
      cases this
    · intro h; cases h
  | some m =>
    obtain ⟨a1,a2,a3,a4⟩ := numS_iff.1 hs
    constructor
    · rintro ⟨h0,h1,h2,h3⟩
      have := (numS_iff (d := d) (n := n) (l := l)).2 ⟨by omega,h1,h2,by rw [key n h0 h2]; exact h3⟩
      rw [hs] at this
      cases this
      simp [h0]
    · intro h
      have h : (if 0 ≤ m then some m else none) = some n := h
      split at h
      · rename_i h0
        cases h
        exact ⟨h0,a2,a3,by rw [← key n h0 a3]; exact a4⟩
      · cases h
section
variable {H : AHeap} {l : List Int} {v : Value}
theorem rNumberS_c (hs : StrH H) {l : List UInt8} {d : Int} (hl : l.length ≤ 281474976710656) : ACall Go.Proofs.Tryz.prog 65 [.string (bs l),.int .i64 d] H fun v H' => NumResS d l v ∧ H' = H := by
  (refine a65 ?_; simp only [n65,List.replicate,List.length_cons,List.length_nil,List.cons_append,List.nil_append]; first | refine Go.Lq.q1 ?_ | refine Go.Lq.q2 ?_ | refine Go.Lq.q6 ?_ | refine Go.Lq.q7 ?_ | refine Go.Lq.qh rfl ?_ | skip)
  (refine yg ?_)
  refine aops_call ((atoi_c hs hl).mono fun v H1 ⟨hr,e⟩ => ?_)
  subst e
  rcases hr with ⟨n,hn,rfl⟩ | ⟨hn,n,t,rfl⟩
  · obtain ⟨b0,b1⟩ := Lib.atoiAll_bounds hn
    (refine yg ?_)
    refine aops_call_to (itoa_c hs b0 b1) ?_
    by_cases h1 : Lib.itoa n = l
    · (repeat(first|refine yw ?_|((first|apply yd|apply ye);simp (disch:=first|exact zz|fail) only[go_sem,dec_t h1];with_reducible rfl)))
      refine aops_call_to trim_c ?_
      (refine yg ?_)
      refine fin_2 ⟨⟨n,?_,?_⟩,rfl⟩
      · by_cases h2 : ((trimM l).length : Int) ≤ d
        · rw [numSo hn ⟨h1,h2⟩,dec_t h2]; rfl
        · rw [numSb hn fun h => h2 h.2,dec_f h2]; rfl
      · intro m hm
        obtain ⟨_,_,a3,_⟩ := numS_iff.1 hm
        have a1 := atoi_itoa (n := m) (numS_iff.1 hm).1 (numS_iff.1 hm).2.1
        rw [a3,hn] at a1
        cases a1; rfl
    · (repeat(first|refine yw ?_|((first|apply yd|apply ye);simp (disch:=first|exact zz|fail) only[go_sem,dec_f h1];with_reducible rfl)))
      refine fin_2 ⟨⟨n,?_,?_⟩,rfl⟩
      · rw [numSb hn fun h => h1 h.1]; rfl
      · intro m hm; rw [numSb hn fun h => h1 h.1] at hm; cases hm
  · (refine yg ?_)
    refine fin_2 ⟨⟨n,?_,?_⟩,rfl⟩
    · rw [numSn hn]; rfl
    · intro m hm; rw [numSn hn] at hm; cases hm
theorem refNum4_c {l : List UInt8} {d : Int} (hd : d ≤ 18) (hl : l.length ≤ 1000000) : ACall Go.Proofs.Tryz.prog 67 [.string (bs l),.int .i64 d] H fun v H' =>
    v = .tuple #[.int .i64 ((numB d l).getD 0),.bool (numR d l).isSome] ∧ H' = H := by
  (refine a67 ?_; simp only [n67,List.replicate,List.length_cons,List.length_nil,List.cons_append,List.nil_append]; first | refine Go.Lq.q1 ?_ | refine Go.Lq.q2 ?_ | refine Go.Lq.q6 ?_ | refine Go.Lq.q7 ?_ | refine Go.Lq.qh rfl ?_ | skip)
  (refine yg ?_)
  refine aops_call_to (refNumber_c hd hl) ?_
  cases hb : numB d l with
  | none =>
    have hr : numR d l = none := by unfold numR; rw [hb]
    rw [hr]
    (repeat(first|refine yw ?_|((first|apply yd|apply ye);simp (disch:=first|exact zz|fail) only[go_sem,Option.isSome_none];with_reducible rfl)))
    exact fin_2 ⟨rfl,rfl⟩
  | some n =>
    have hp : (0 : Int) < l.length := by have := numB_pos hb; omega
    by_cases h45 : at8 l 0 = 45
    · have hr : numR d l = none := by unfold numR; rw [hb]; simp [h45]
      rw [hr]
      (repeat(first|refine yw ?_|((first|apply yd|apply ye);simp (disch:=first|exact zz|fail) only[go_sem,Option.isSome_some,dec_f (fun h : at8 l 0 ≠ 45 => h h45)];with_reducible rfl)))
      exact fin_2 ⟨rfl,rfl⟩
    · have hr : numR d l = some n := by unfold numR; rw [hb]; simp [h45]
      rw [hr]
      (repeat(first|refine yw ?_|((first|apply yd|apply ye);simp (disch:=first|exact zz|fail) only[go_sem,Option.isSome_some,dec_t (show at8 l 0 ≠ 45 from h45)];with_reducible rfl)))
      exact fin_2 ⟨rfl,rfl⟩
set_option maxHeartbeats 1000000 in
theorem joinedW_c (hs : StrH H) (hl : Ints H l v) (hn : l.length ≤ 100000) (hb : InW l) : ACall Go.Proofs.Tryz.prog 54 [v] H fun w H' => w = .string (bs (pathT l)) ∧ H' = H := by
  refine ACall.drop (.string _) ?_
  (refine a54 ?_; simp only [n54,List.replicate,List.length_cons,List.length_nil,List.cons_append,List.nil_append]; first | refine Go.Lq.q1 ?_ | refine Go.Lq.q2 ?_ | refine Go.Lq.q6 ?_ | refine Go.Lq.q7 ?_ | refine Go.Lq.qh rfl ?_ | skip)
  (repeat(first|refine yw ?_|((first|apply yd|apply ye);simp (disch:=first|exact zz|fail) only[go_sem,hl.len,hl.idx,hl.load];with_reducible rfl)))
  refine awp_loop_n [false,false,false,true,false,false,true,true,true,false,false,false,false,false,false,false,false,false,false,false] l.length (fun i e H' => ∃ w,e = [junk,junk,junk,w,junk,junk,v,.int .i64 (l.length : Nat),.int .i64 (i : Nat),junk,junk,junk,junk,junk,junk,junk,junk,junk,junk,junk] ∧ Ext H H' ∧ OwnS H H' (wordsT (l.take i)) w) ?_ ?_
  · exact ⟨.slice none 0 0,by simp [forget],Ext.refl _,by simp only [List.take_zero]; exact OwnS.nil _ _⟩
  rintro i e H' hi ⟨w,rfl,x1,ho⟩
  have hli := hl.ext x1
  (refine yg ?_)
  refine cond_p rfl (fun hlt => ?_) (fun hge => ?_)
  rotate_left 1
  · obtain rfl : i = l.length := by omega
    rw [List.take_length] at ho
    (refine yg ?_)
    have hml := pathT_length hb
    (refine aops_call_to (join_c (ll := wordsT l) (m := [32]) ho.txts (by simp [wordsT]; omega) (by show (pathT l).length ≤ _; omega)) ?_)
    (refine yg ?_)
    exact fin_1 ⟨rfl,x1⟩
  have hi' : i < l.length := by omega
  have e1 : (i : Int) + 1 = ((i + 1 : Nat) : Int) := by omega
  obtain ⟨b1,b2⟩ := hb.get hi'
  obtain ⟨p,hp⟩ : ∃ p,p = l.getD i 0 := ⟨_,rfl⟩
  rw [← hp] at b1 b2
  have q1' := Lib.itoa_length_le _ b1 b2
  have hsn : StrH H' := hs.ext x1
  (repeat(first|refine yw ?_|((first|apply yd|apply ye);simp (disch:=first|exact zz|fail) only[go_sem,hli.len,hli.idx,hli.load,← hp];with_reducible rfl)))
  (refine aops_call_to (itoa_c hsn b1 b2) ?_)
  have hlen : (wordsT (l.take i)).length = i := by simp [wordsT]; omega
  (repeat(first|refine yw ?_|((first|apply yd|apply ye);simp (disch:=first|exact zz|fail) only[go_sem,ho.push,e1];with_reducible rfl)))
  refine ⟨by omega,pushV H' (wordsT (l.take i)).length,by simp [forget],ho.ext x1 _,?_⟩
  rw [wordsT_take hi',← hp]
  exact ho.pushed x1 (Lib.itoa p)
set_option maxHeartbeats 1000000 in
theorem rWords_c (hl : Ints H l v) (hn : l.length ≤ 100000) (hb : InW l) : ACall Go.Proofs.Tryz.prog 69 [v] H fun w H' => w = .string (bs (pathT l)) ∧ H' = H := by
  refine ACall.drop (.string _) ?_
  (refine a69 ?_; simp only [n69,List.replicate,List.length_cons,List.length_nil,List.cons_append,List.nil_append]; first | refine Go.Lq.q1 ?_ | refine Go.Lq.q2 ?_ | refine Go.Lq.q6 ?_ | refine Go.Lq.q7 ?_ | refine Go.Lq.qh rfl ?_ | skip)
  (refine yg ?_)
  refine awp_loop_n [true,false,false,true,true,false,false,false,false,false,false,false,false,false,false,false,false,false,false,false,false,false,false] l.length (fun i e H' => H' = H ∧ e = [v,junk,junk,.string (bs (pathT (l.take i))),.int .i64 (i : Nat),junk,junk,junk,junk,junk,junk,junk,junk,junk,junk,junk,junk,junk,junk,junk,junk,junk,junk]) ?_ ?_
  · exact ⟨rfl,by simp [forget,pathT,wordsT,Lib.join_nil]⟩
  rintro i e H' hi ⟨rfl,rfl⟩
  (repeat(first|refine yw ?_|((first|apply yd|apply ye);simp (disch:=first|exact zz|fail) only[go_sem,hl.len,hl.idx,hl.load];with_reducible rfl)))
  refine cond_p rfl (fun hlt => ?_) (fun hge => ?_)
  rotate_left 1
  · obtain rfl : i = l.length := by omega
    rw [List.take_length]
    (refine yg ?_)
    exact fin_1 ⟨rfl,⟨[],(List.append_nil _).symm⟩⟩
  have hi' : i < l.length := by omega
  have e1 : (i : Int) + 1 = ((i + 1 : Nat) : Int) := by omega
  obtain ⟨b1,b2⟩ := hb.get hi'
  have hml := pathT_length (hb.take i)
  rw [List.length_take] at hml
  have hml : (pathT (l.take i)).length ≤ 2200000 := by omega
  have hsn := pathT_snoc hi'
  obtain ⟨p,hp⟩ : ∃ p,p = l.getD i 0 := ⟨_,rfl⟩
  rw [← hp] at b1 b2 hsn
  have q1' := Lib.itoa_length_le _ b1 b2
  (refine yx ?_; (first | apply aops_all | apply adraw_all); simp (disch:=first|exact zz|fail) only[go_sem]; with_reducible rfl)
  refine awp_mid [true,false,false,true,true,false,false,false,false,false,false,false,false,false,false,false,false,false,false,false,false,false,false] (fun e J => J = H' ∧ e = [v,junk,junk,.string (bs (pathT (l.take i) ++ (if 0 < i then [32] else []))),.int .i64 (i : Nat),junk,junk,junk,junk,junk,junk,junk,junk,junk,junk,junk,junk,junk,junk,junk,junk,junk,junk]) ?_ ?_
  · refine cond_p rfl (fun h0 => ?_) (fun h0 => ?_)
    · have h0' : 0 < i := by omega
      (refine yg ?_)
      exact ⟨rfl,rfl,by simp [forget,h0']⟩
    · have h0' : ¬ 0 < i := by omega
      (refine yg ?_)
      exact ⟨rfl,rfl,by simp [forget,h0']⟩
  rintro e J ⟨rfl,rfl⟩
  obtain ⟨pre,hpre⟩ : ∃ pre : List UInt8,pre = pathT (l.take i) ++ (if 0 < i then [32] else []) := ⟨_,rfl⟩
  have hpl : pre.length ≤ 2200001 := by
    rw [hpre,List.length_append]
    split <;> simp <;> omega
  rw [← hpre] at hsn ⊢
  (repeat(first|refine yw ?_|((first|apply yd|apply ye);simp (disch:=first|exact zz|fail) only[go_sem,hl.len,hl.idx,hl.load,← hp];with_reducible rfl)))
  (refine aops_call_to (decimal_c b1 b2) ?_)
  (repeat(first|refine yw ?_|((first|apply yd|apply ye);simp (disch:=first|exact zz|fail) only[go_sem,List.length_append,e1];with_reducible rfl)))
  refine ⟨by omega,rfl,?_⟩
  rw [hsn]
  simp [forget]
end
end Go.Lq

namespace Go.Lq
open Go
open Go.Proofs
attribute [go_sem] r_arrS arrS_p
def cutN (c : UInt8) : Nat → List UInt8 → List (List UInt8)
  | 0,l => [l]
  | k + 1,l => if (Lib.cut l [c]).2.2 = true then (Lib.cut l [c]).1 :: cutN c k (Lib.cut l [c]).2.1 else [l]
theorem splitK_cutN (c : UInt8) : ∀ (k : Nat) (l : List UInt8),Lib.splitK [c] 0 k l = cutN c k l
  | 0,_ => rfl
  | k + 1,l => by
    have hg := Lib.index_ge l [c]
    unfold cutN Lib.cut
    simp only [Lib.splitK]
    by_cases hm : Lib.index l [c] = -1
    · simp [hm]
    · have h0 : 0 ≤ Lib.index l [c] := by omega
      rw [if_neg (by simp [hm]),if_pos h0]
      simp only [if_true]
      rw [splitK_cutN c k]
      simp
theorem cut_nil (c : UInt8) : Lib.cut [] [c] = ([],[],false) := rfl
theorem cutN_two (c : UInt8) (l : List UInt8) : cutN c (min 3 (l.length + 1) - 1) l = cutN c 2 l := by
  match l with
  | [] => simp [cutN,cut_nil]
  | [b] =>
    show cutN c 1 [b] = cutN c 2 [b]
    by_cases hb : b = c
    · subst hb
      have e : Lib.cut [b] [b] = ([],[],true) := by unfold Lib.cut; rw [index_eq]; rfl
      simp [cutN,e,cut_nil]
    · have e : (Lib.cut [b] [c]).2.2 = false := by unfold Lib.cut; rw [index_ne hb]; rfl
      simp [cutN,e]
  | a :: b :: r =>
    have : min 3 ((a :: b :: r).length + 1) - 1 = 2 := by simp <;> omega
    rw [this]
theorem cutN_three (l : List UInt8) : (∃ a b r,cutN 32 2 l = [a,b,r] ∧ cutL 32 l = a :: b :: cutL 32 r) ∨ ((cutN 32 2 l).length ≠ 3 ∧ (cutL 32 l).length < 3) := by
  rw [cut_cutL]
  unfold cutN
  by_cases h1 : (Lib.cut l [32]).2.2 = true
  · rw [if_pos h1,if_pos h1,cut_cutL]
    unfold cutN
    by_cases h2 : (Lib.cut (Lib.cut l [32]).2.1 [32]).2.2 = true
    · rw [if_pos h2,if_pos h2]
      exact .inl ⟨_,_,_,rfl,rfl⟩
    · rw [if_neg h2,if_neg h2]
      exact .inr ⟨by simp,by simp⟩
  · rw [if_neg h1,if_neg h1]
    exact .inr ⟨by simp,by simp⟩
theorem cut_len (l : List UInt8) : (Lib.cut l [32]).1.length ≤ l.length ∧ (Lib.cut l [32]).2.1.length ≤ l.length := by
  unfold Lib.cut
  split
  · simp; omega
  · simp
theorem cutN_piece : ∀ (k : Nat) (l w : List UInt8),w ∈ cutN 32 k l → w.length ≤ l.length
  | 0,l,w,h => by simp [cutN] at h; rw [h]; exact Nat.le_refl _
  | k + 1,l,w,h => by
    unfold cutN at h
    split at h
    · have hc := cut_len l
      rcases List.mem_cons.1 h with rfl | h
      · exact hc.1
      · exact Nat.le_trans (cutN_piece k _ w h) hc.2
    · simp at h; rw [h]; exact Nat.le_refl _
theorem cutN_ne (c : UInt8) (k : Nat) (l : List UInt8) : cutN c k l ≠ [] := by
  cases k with
  | zero => simp [cutN]
  | succ k => unfold cutN; split <;> simp
theorem cutN_length (c : UInt8) : ∀ (k : Nat) (l : List UInt8),(cutN c k l).length ≤ k + 1
  | 0,l => by simp [cutN]
  | k + 1,l => by
    unfold cutN
    split
    · have := cutN_length c k (Lib.cut l [c]).2.1; simp; omega
    · simp
theorem join_cutL (l : List UInt8) : Lib.join (cutL 32 l) [32] = l := by
  induction l with
  | nil => rfl
  | cons b r ih =>
    obtain ⟨x,xs,e⟩ := cutL_ne 32 r
    rw [e] at ih
    unfold cutL
    split
    · rename_i hb
      rw [e,hb]
      rw [Lib.join_cons] at ih ⊢
      simp only [Lib.joinTail] at ih ⊢
      rw [← ih]
      simp
    · rw [e]
      dsimp only
      rw [Lib.join_cons] at ih ⊢
      rw [← ih]
      rfl
theorem strs_data : ∀ l : List ByteArray,strs (l.map fun b => b.data.toList) = l.map Value.string
  | [] => rfl
  | b :: r => by
    have ih := strs_data r
    unfold strs at *
    simp only [List.map_cons]
    rw [ih,← bs_of]
section
variable {H : AHeap}
theorem splitN_c (hs : StrH H) {l : List UInt8} (hl : l.length ≤ 281474976) : ACall Go.Proofs.Tryz.prog 62 [.string (bs l),.string (bs [32]),.int .i64 3] H fun v H' =>
    v = .slice (some ⟨H.length,0,none⟩) (cutN 32 2 l).length (cutN 32 2 l).length ∧ H' = H ++ [.cells true 1 (strs (cutN 32 2 l))] := by
  refine ACall.of_row ⟨_,Go.Proofs.Tryz.func62,by kernel_rfl,by kernel_rfl⟩ fun base β w cargs hi hv => ?_
  obtain ⟨y,y',y2,e,h,h',h2⟩ : ∃ y y' y2,cargs.toList = [y,y',y2] ∧ VR β (.string (bs l)) y ∧ VR β (.string (bs [32])) y' ∧ VR β (.int .i64 3) y2 := by
    obtain ⟨h1,h2⟩ := hv
    match hc : cargs.toList,h1 with
    | [a,b,c],_ => exact ⟨a,b,c,rfl,h2 0 _ _ rfl (by rw [hc]; rfl),h2 1 _ _ rfl (by rw [hc]; rfl),h2 2 _ _ rfl (by rw [hc]; rfl)⟩
  obtain rfl := h.str
  obtain rfl := h'.str
  obtain rfl := h2.num
  have e3 : cargs = #[.string (bs l),.string (bs [32]),.int .i64 3] := by rw [← Array.toArray_toList (xs := cargs),e]
  rw [e3]
  obtain ⟨k,hm⟩ := hs.maxLen hi
  refine (Go.Proofs.Tryz.strings_SplitN (bs l) (bs [32]) 3 k w (by rw [bs_size]; omega) hm (by rw [bs_size]; decide) (by decide) (by decide)).mono fun e' w' ⟨he,hw⟩ => ?_
  subst hw
  have hd := Lib.splitB_data (bs [32]) 0 (min 3 ((bs l).size + 1) - 1) (bs l)
  rw [bs_data,bs_data,bs_size,splitK_cutN,cutN_two] at hd
  rw [bs_size] at he ⊢
  generalize Lib.splitB (bs [32]) 0 (min 3 (l.length + 1) - 1) (bs l) = B at he hd ⊢
  have hlen : B.length = (cutN 32 2 l).length := by rw [← hd,List.length_map]
  have hst : strs (cutN 32 2 l) = B.map Value.string := by rw [← hd]; exact strs_data B
  have hle : (cutN 32 2 l).length ≤ min 3 (l.length + 1) := by
    have := cutN_length 32 (min 3 (l.length + 1) - 1) l
    rw [cutN_two] at this
    omega
  have hpos : 0 < (cutN 32 2 l).length := List.length_pos_iff.2 (cutN_ne _ _ _)
  refine ⟨strs (cutN 32 2 l),_,9,1,(cutN 32 2 l).length,(cutN 32 2 l).length,min 3 (l.length + 1),by rw [he,hlen],rfl,rfl,rfl,rfl,fun i v hiv => ?_,hle,fun h => by omega,?_,rfl,rfl⟩
  · rw [hst] at hiv
    have hil := (List.getElem?_eq_some_iff.1 hiv).1
    refine ⟨v,?_,?_⟩
    · unfold Lib.cellsOf
      rw [← Array.getElem?_toList]
      show (B.map Value.string ++ _)[i]? = some v
      rw [List.getElem?_append_left hil]; exact hiv
    · obtain ⟨b,_,rfl⟩ := List.mem_map.1 (List.mem_of_getElem? hiv)
      exact .string _
  · rw [Lib.cellsOf_size (by omega)]
    omega
theorem splitB_c (hs : StrH H) {l : List UInt8} (hl : l.length ≤ 281474976) : ACall Go.Proofs.Tryz.prog 60 [.string (bs l),.string (bs [32])] H fun v H' =>
    v = .slice (some ⟨H.length,0,none⟩) (cutL 32 l).length (cutL 32 l).length ∧ H' = H ++ [.cells true 1 (strs (cutL 32 l))] := by
  have := split_c (H := H) hs (l := l) (m := [32]) hl (by simp)
  rw [split_cutL] at this
  exact this
theorem index2_c {a b m : List UInt8} {v : Value} (ht : Txts H [a,b] v) : ACall Go.Proofs.Tryz.prog 58 [v,.string (bs m)] H fun w H' => w = .int .i64 (if m = a then 0 else if m = b then 1 else -1) ∧ H' = H := by
  (refine a58 ?_; simp only [n58,List.replicate,List.length_cons,List.length_nil,List.cons_append,List.nil_append]; first | refine Go.Lq.q1 ?_ | refine Go.Lq.q2 ?_ | refine Go.Lq.q6 ?_ | refine Go.Lq.q7 ?_ | refine Go.Lq.qh rfl ?_ | skip)
  (repeat(first|refine yw ?_|((first|apply yd|apply ye);simp (disch:=first|exact zz|fail) only[go_sem,ht.len,ht.idx,ht.load];with_reducible rfl)))
  have t0 := ht.load (Ext.refl _) (k := 0) (by simp)
  have t1 := ht.load (Ext.refl _) (k := 1) (by simp)
  have t0 : loadR (addrOf v 0) H = some (.string (bs a),H) := t0
  have t1 : loadR (addrOf v 1) H = some (.string (bs b),H) := t1
  refine awp_loop_n [true,true,false,false,false,false,true,true,true,false,false,false,false,false,false,false,false,false,false] 2 (fun i e H' => H' = H ∧ e = [v,.string (bs m),junk,junk,junk,junk,v,.int .i64 2,.int .i64 (i : Nat),junk,junk,junk,junk,junk,junk,junk,junk,junk,junk] ∧ (0 < i → m ≠ a) ∧ (1 < i → m ≠ b)) ?_ ?_
  · exact ⟨rfl,by simp [forget],fun h => by omega,fun h => by omega⟩
  rintro i e H' hi ⟨rfl,rfl,g1,g2⟩
  (refine yg ?_)
  refine cond_p rfl (fun hlt => ?_) (fun hge => ?_)
  · have hi2 : i = 0 ∨ i = 1 := by omega
    rcases hi2 with rfl | rfl
    · have i0 : idxR 1 v (.int .i64 ((0 : Nat) : Int)) H' = some (addrOf v 0,H') := ht.idx (i := 0) (by omega) (by simp)
      by_cases hm : m = a
      · (repeat(first|refine yw ?_|((first|apply yd|apply ye);simp (disch:=first|exact zz|fail) only[go_sem,i0,t0,dec_t hm];with_reducible rfl)))
        refine cond_t rfl ?_
        (refine yg ?_)
        refine fin_1 ⟨?_,rfl⟩
        rw [if_pos hm]; rfl
      · (repeat(first|refine yw ?_|((first|apply yd|apply ye);simp (disch:=first|exact zz|fail) only[go_sem,i0,t0,dec_f hm];with_reducible rfl)))
        refine cond_f rfl ?_
        (refine yg ?_)
        exact ⟨by omega,rfl,by simp [forget],fun _ => hm,fun h => by omega⟩
    · have i1 : idxR 1 v (.int .i64 ((1 : Nat) : Int)) H' = some (addrOf v 1,H') := ht.idx (i := 1) (by omega) (by simp)
      by_cases hm : m = b
      · (repeat(first|refine yw ?_|((first|apply yd|apply ye);simp (disch:=first|exact zz|fail) only[go_sem,i1,t1,dec_t hm];with_reducible rfl)))
        refine cond_t rfl ?_
        (refine yg ?_)
        refine fin_1 ⟨?_,rfl⟩
        rw [if_neg (g1 (by omega)),if_pos hm]; rfl
      · (repeat(first|refine yw ?_|((first|apply yd|apply ye);simp (disch:=first|exact zz|fail) only[go_sem,i1,t1,dec_f hm];with_reducible rfl)))
        refine cond_f rfl ?_
        (refine yg ?_)
        exact ⟨by omega,rfl,by simp [forget],fun _ => g1 (by omega),fun _ => hm⟩
  (refine yg ?_)
  refine fin_1 ⟨?_,rfl⟩
  rw [if_neg (g1 (by omega)),if_neg (g2 (by omega))]
  rfl
end
end Go.Lq

namespace Go.Lq
open Go
open Go.Proofs
def numsD : List Int → List (List UInt8) → Option (List Int)
  | [],[] => some []
  | d :: ds,w :: ws => match numP d w with | some n => (numsD ds ws).map (n :: ·) | none => none
  | _,_ => none
theorem numsD_some {d : Int} {ds : List Int} {w : List UInt8} {ws : List (List UInt8)} {n : Int} (h : numP d w = some n) : numsD (d :: ds) (w :: ws) = (numsD ds ws).map (n :: ·) := by
  rw [numsD,h]
  first | done | rfl
theorem numsD_none {d : Int} {ds : List Int} {w : List UInt8} {ws : List (List UInt8)} (h : numP d w = none) : numsD (d :: ds) (w :: ws) = none := by
  rw [numsD,h]
  first | done | rfl
theorem numsD_len : ∀ {ds : List Int} {ws : List (List UInt8)},ws.length ≠ ds.length → numsD ds ws = none
  | [],[],h => absurd rfl h
  | [],_ :: _,_ => rfl
  | _ :: _,[],_ => rfl
  | d :: ds,w :: ws,h => by
    have ih := numsD_len (ds := ds) (ws := ws) (by simpa using h)
    cases hn : numP d w with
    | none => exact numsD_none hn
    | some n => rw [numsD_some hn,ih]; rfl
def putAll : List Value → List Nat → List Int → List Value
  | cs,o :: os,n :: ns => putAll (cs.set o (.int .i64 n)) os ns
  | cs,_,_ => cs
theorem putAll_len : ∀ (cs : List Value) (os : List Nat) (ns : List Int),(putAll cs os ns).length = cs.length
  | _,[],_ => rfl
  | _,_ :: _,[] => rfl
  | cs,o :: os,n :: ns => by
    show (putAll (cs.set o (.int .i64 n)) os ns).length = _
    rw [putAll_len _ os ns]; simp
theorem putAll_snoc : ∀ (cs : List Value) (os : List Nat) (ns : List Int) (i : Nat) (n : Int),ns.length = i → i < os.length → putAll cs (os.take (i + 1)) (ns ++ [n]) = (putAll cs (os.take i) ns).set (os.getD i 0) (.int .i64 n)
  | cs,[],_,i,_,_,h => by simp at h
  | cs,o :: os,[],i,n,hl,_ => by
    obtain rfl : i = 0 := by simpa using hl.symm
    rfl
  | cs,o :: os,m :: ns,0,n,hl,_ => by simp at hl
  | cs,o :: os,m :: ns,i + 1,n,hl,h => by
    show putAll (cs.set o (.int .i64 m)) (os.take (i + 1)) (ns ++ [n]) = (putAll (cs.set o (.int .i64 m)) (os.take i) ns).set (os.getD i 0) _
    exact putAll_snoc _ os ns i n (by simpa using hl) (by simpa using h)
theorem Sl.set_ne {H : AHeap} {sz n b : Nat} {vs : List Value} {v : Value} (h : Sl H sz n vs v) (hb : idOf v ≠ b) (c : AObj) : Sl (H.set b c) sz n vs v := by
  obtain ⟨h1,h2⟩ := h
  refine ⟨h1,h2.imp_right fun ⟨id,off,cc,e,h3⟩ => ⟨id,off,cc,e,fun hn => ?_⟩⟩
  have h4 := h3 hn
  have hne : b ≠ id := by rw [e] at hb; exact fun x => hb x.symm
  unfold cellsAt at h4 ⊢
  rw [List.getElem?_set_ne hne]
  exact h4
theorem StrH.set {H : AHeap} (h : StrH H) {b : Nat} (hb : 7 ≤ b) (c : AObj) : StrH (H.set b c) := by
  obtain ⟨m,h1⟩ := h.max
  obtain ⟨t,h2⟩ := h.syn
  obtain ⟨u,h3⟩ := h.rng
  exact ⟨⟨m,by rw [List.getElem?_set_ne (by omega)]; exact h1⟩,by rw [List.getElem?_set_ne (by omega)]; exact h.tab,⟨t,by rw [List.getElem?_set_ne (by omega)]; exact h2⟩,⟨u,by rw [List.getElem?_set_ne (by omega)]; exact h3⟩⟩
def ptrsB (b : Nat) (os : List Nat) : List Value := os.map fun o => .pointer (some ⟨b,o,none⟩)
theorem set_same {H : AHeap} {b : Nat} {c : AObj} (h : H[b]? = some c) : H.set b c = H := by
  apply List.ext_getElem?
  intro i
  by_cases e : b = i
  · subst e; rw [get_set_self h,h]
  · rw [List.getElem?_set_ne e]
section
variable {H : AHeap}
set_option maxHeartbeats 4000000 in
theorem parsed_c (hs : StrH H) {ws : List (List UInt8)} {ds : List Int} {os : List Nat} {cs : List Value} {b : Nat} {vw vd vi : Value} (hw : Txts H ws vw) (hd : Ints H ds vd) (hi : Sl H 1 os.length (ptrsB b os) vi)
    (hb : H[b]? = some (.cells true 0 cs)) (hb13 : 7 ≤ b) (hdl : ds.length = os.length) (hoc : ∀ o ∈ os,o < cs.length) (nw : idOf vw ≠ b) (nd : idOf vd ≠ b) (ni : idOf vi ≠ b)
    (hwl : ∀ w ∈ ws,w.length ≤ 100000) (hn : ws.length ≤ 100001) (hon : os.length ≤ 100) :
    ACall Go.Proofs.Tryz.prog 59 [vw,vd,vi] H fun v H' => ∃ cs',H' = H.set b (.cells true 0 cs') ∧ cs'.length = cs.length ∧ v = .bool (numsD ds ws).isSome ∧ ∀ ns,numsD ds ws = some ns → cs' = putAll cs os ns := by
  (refine a59 ?_; simp only [n59,List.replicate,List.length_cons,List.length_nil,List.cons_append,List.nil_append]; first | refine Go.Lq.q1 ?_ | refine Go.Lq.q2 ?_ | refine Go.Lq.q6 ?_ | refine Go.Lq.q7 ?_ | refine Go.Lq.qh rfl ?_ | skip)
  by_cases hl : ws.length = os.length
  rotate_left 1
  · have hnone : numsD ds ws = none := numsD_len (by omega)
    (repeat(first|refine yw ?_|((first|apply yd|apply ye);simp (disch:=first|exact zz|fail) only[go_sem,hw.len,hw.idx,hw.load,hi.len,hi.idx,hi.load,dec_t (show ((ws.length : Nat) : Int) ≠ ((os.length : Nat) : Int) by omega)];with_reducible rfl)))
    refine cond_t rfl ?_
    (refine yg ?_)
    refine fin_1 ⟨cs,(set_same hb).symm,rfl,by rw [hnone]; rfl,fun ns h => by rw [hnone] at h; cases h⟩
  (repeat(first|refine yw ?_|((first|apply yd|apply ye);simp (disch:=first|exact zz|fail) only[go_sem,hw.len,hw.idx,hw.load,hi.len,hi.idx,hi.load,dec_f (show ¬ ((ws.length : Nat) : Int) ≠ ((os.length : Nat) : Int) by omega)];with_reducible rfl)))
  refine cond_f rfl ?_
  (repeat(first|refine yw ?_|((first|apply yd|apply ye);simp (disch:=first|exact zz|fail) only[go_sem,hw.len,hw.idx,hw.load];with_reducible rfl)))
  refine awp_loop_n [false,true,true,false,false,false,true,false,false,false,false,false,false,false,false,false,true,true,true,false,false,false,false,false,false,false,false,false,false,false,false,false,false,false,false,false,false,false,false,false,false,false,false,false,false] ws.length (fun i e H' => ∃ ns : List Int,e = [junk,vd,vi,junk,junk,junk,.bool false,junk,junk,junk,junk,junk,junk,junk,junk,junk,vw,.int .i64 (ws.length : Nat),.int .i64 (i : Nat),junk,junk,junk,junk,junk,junk,junk,junk,junk,junk,junk,junk,junk,junk,junk,junk,junk,junk,junk,junk,junk,junk,junk,junk,junk,junk] ∧ H' = H.set b (.cells true 0 (putAll cs (os.take i) ns)) ∧ ns.length = i ∧
      numsD ds ws = (numsD (ds.drop i) (ws.drop i)).map (ns ++ ·)) ?_ ?_
  · refine ⟨[],by simp [forget],?_,rfl,?_⟩
    · have : putAll cs (os.take 0) [] = cs := rfl
      rw [this,set_same hb]
    · rw [List.drop_zero,List.drop_zero]; cases numsD ds ws <;> simp
  rintro i e H' hi' ⟨ns,rfl,rfl,hns,hq⟩
  have hbl : b < H.length := (List.getElem?_eq_some_iff.1 hb).1
  obtain ⟨ci,hci⟩ : ∃ ci,ci = putAll cs (os.take i) ns := ⟨_,rfl⟩
  have hcl : ci.length = cs.length := by rw [hci]; exact putAll_len _ _ _
  rw [← hci]
  have kb : (H.set b (.cells true 0 ci))[b]? = some (.cells true 0 ci) := get_set_self hb
  have sK := hs.set hb13 (.cells true 0 ci)
  have wK : Txts (H.set b (.cells true 0 ci)) ws vw := Sl.set_ne hw nw _
  have dK : Ints (H.set b (.cells true 0 ci)) ds vd := Sl.set_ne hd nd _
  have iK : Sl (H.set b (.cells true 0 ci)) 1 os.length (ptrsB b os) vi := Sl.set_ne hi ni _
  (refine yg ?_)
  refine cond_p rfl (fun hlt => ?_) (fun hge => ?_)
  rotate_left 1
  · obtain rfl : i = ws.length := by omega
    rw [List.drop_eq_nil_of_le (by omega : ds.length ≤ ws.length),List.drop_length] at hq
    have hq : numsD ds ws = some ns := by rw [hq]; show some (ns ++ []) = _; rw [List.append_nil]
    (refine yg ?_)
    refine fin_1 ⟨ci,rfl,hcl,by rw [hq]; rfl,fun ms hm => ?_⟩
    rw [hq] at hm
    cases hm
    rw [hci,hl,List.take_length]
  have hi2 : i < ws.length := by omega
  have e1 : (i : Int) + 1 = ((i + 1 : Nat) : Int) := by omega
  have hwm : ws.getD i [] ∈ ws := by rw [List.getD_eq_getElem?_getD,List.getElem?_eq_getElem hi2]; exact List.getElem_mem _
  have hwl' := hwl _ hwm
  rw [drop_getD (d := ([] : List UInt8)) hi2,drop_getD (d := (0 : Int)) (by omega : i < ds.length)] at hq
  have l1 := wK.load (Ext.refl _) hi2
  have l2 : loadR (addrOf vd i) (H.set b (.cells true 0 ci)) = some (.int .i64 (ds.getD i 0),H.set b (.cells true 0 ci)) := dK.load (Ext.refl _) (by omega)
  have hio : i < os.length := by omega
  have l3 : loadR (addrOf vi i) (H.set b (.cells true 0 ci)) = some (.pointer (some ⟨b,os.getD i 0,none⟩),H.set b (.cells true 0 ci)) := by
    have := Sl.load iK (Ext.refl _) (k := i) (by omega)
    rw [this]
    unfold ptrsB
    rw [List.getD_eq_getElem?_getD,List.getElem?_map,List.getD_eq_getElem?_getD,List.getElem?_eq_getElem hio]
    rfl
  have i3 : idxR 1 vi (.int .i64 (i : Nat)) (H.set b (.cells true 0 ci)) = some (addrOf vi i,H.set b (.cells true 0 ci)) := by
    have := Sl.idx iK (i := (i : Int)) (k := .i64) (H' := H.set b (.cells true 0 ci)) (by omega) (by omega)
    simpa using this
  have hoi : os.getD i 0 < ci.length := by
    rw [hcl]
    exact hoc _ (by rw [List.getD_eq_getElem?_getD,List.getElem?_eq_getElem hio]; exact List.getElem_mem _)
  generalize ws.getD i [] = w at hwl' hq l1
  generalize ds.getD i 0 = d at hq l2
  generalize hog : os.getD i 0 = o at l3 hoi
  obtain ⟨K,hK⟩ : ∃ K,K = H.set b (.cells true 0 ci) := ⟨_,rfl⟩
  rw [← hK] at kb sK wK dK iK l1 l2 l3 i3 ⊢
  (repeat(first|refine yw ?_|((first|apply yd|apply ye);simp (disch:=first|exact zz|fail) only[go_sem,wK.idx,l1];with_reducible rfl)))
  (repeat(first|refine yw ?_|((first|apply yd|apply ye);simp (disch:=first|exact zz|fail) only[go_sem,dK.idx,l2];with_reducible rfl)))
  refine aops_call ((rNumberS_c sK (l := w) (d := d) (by omega)).mono fun v1 K1 ⟨⟨n,en,fn⟩,e⟩ => ?_)
  subst e
  subst en
  have hnp := numS_numP (d := d) (l := w)
  cases hq1 : numS d w with
  | none =>
    rw [hq1] at hnp
    have hnp : numP d w = none := hnp
    rw [numsD_none hnp] at hq
    have hq : numsD ds ws = none := hq
    (repeat(first|refine yw ?_|((first|apply yd|apply ye);simp (disch:=first|exact zz|fail) only[go_sem,Option.isSome_none];with_reducible rfl)))
    refine cond_t rfl ?_
    (refine yg ?_)
    exact fin_1 ⟨ci,hK,hcl,by rw [hq]; rfl,fun ms hm => by rw [hq] at hm; cases hm⟩
  | some m =>
    obtain rfl := fn m hq1
    rw [hq1] at hnp
    have hnp : numP d w = if 0 ≤ n then some n else none := hnp
    by_cases h0 : 0 ≤ n
    rotate_left 1
    · rw [if_neg h0] at hnp
      rw [numsD_none hnp] at hq
      have hq : numsD ds ws = none := hq
      (repeat(first|refine yw ?_|((first|apply yd|apply ye);simp (disch:=first|exact zz|fail) only[go_sem,Option.isSome_some,dec_t (show n < 0 by omega)];with_reducible rfl)))
      refine cond_t rfl ?_
      (refine yg ?_)
      exact fin_1 ⟨ci,hK,hcl,by rw [hq]; rfl,fun ms hm => by rw [hq] at hm; cases hm⟩
    rw [if_pos h0] at hnp
    rw [numsD_some hnp] at hq
    (repeat(first|refine yw ?_|((first|apply yd|apply ye);simp (disch:=first|exact zz|fail) only[go_sem,Option.isSome_some,dec_f (show ¬ n < 0 by omega)];with_reducible rfl)))
    refine cond_f rfl ?_
    have hst : storeR 1 (.pointer (some ⟨b,o,none⟩)) (.int .i64 n) K1 = some (undef,K1.set b (.cells true 0 (ci.set o (.int .i64 n)))) := store_in kb hoi rfl rfl
    (repeat(first|refine yw ?_|((first|apply yd|apply ye);simp (disch:=first|exact zz|fail) only[go_sem,i3,l3,hst,e1];with_reducible rfl)))
    refine ⟨by omega,ns ++ [n],by simp [forget],?_,by simp [hns],?_⟩
    · rw [hK,List.set_set,putAll_snoc cs os ns i n hns hio,← hci,hog]
    · rw [hq]; cases numsD (ds.drop (i + 1)) (ws.drop (i + 1)) <;> simp
end
end Go.Lq

namespace Go.Lq
open Go
open Go.Proofs
theorem ratio_map : mapB ≠ ratioB := by decide
def WordsAt (H : AHeap) : Prop := H[0]? = some (.cells false 1 [.string (bs ratioB),.string (bs mapB)])
theorem WordsAt.ext {H H' : AHeap} (h : WordsAt H) (hx : Ext H H') : WordsAt H' := ext_at hx h
theorem WordsAt.txts {H : AHeap} (h : WordsAt H) : Txts H [ratioB,mapB] (.slice (some ⟨0,0,none⟩) 2 2) := Txts.of_cells (pl := [ratioB,mapB]) h
abbrev RulesT := Int × Int × Int × Int × Int × List (Int × Int)
def zeroR : RulesT := (0,0,0,0,0,[])
def errR (r : RulesT) : Int := rulesErrL r.1 r.2.1 r.2.2.1 r.2.2.2.1 r.2.2.2.2.1 r.2.2.2.2.2
def chkR (r : RulesT) : RulesT × Int := if errR r = 0 then (r,0) else (zeroR,errR r)
theorem chkR_ok {r : RulesT} (h : errR r = 0) : chkR r = (r,0) := by unfold chkR; rw [if_pos h]
theorem chkR_bad {r : RulesT} (h : errR r ≠ 0) : chkR r = (zeroR,errR r) := by unfold chkR; rw [if_neg h]
def parseRulesL (l : List UInt8) : RulesT × Int :=
  if (Lib.cut l [32]).1 = ratioB then
    match numsD [4,4,4] (cutL 32 (Lib.cut l [32]).2.1) with
    | some [d,n,m] => chkR (0,d,n,m,0,[])
    | _ => (zeroR,7)
  else if (Lib.cut l [32]).1 = mapB then
    match cutN 32 2 (Lib.cut l [32]).2.1 with
    | [a,b,c] =>
      match numsD [4,13] [a,b] with
      | some [d,st] => if (parseMapL c).2 = 0 then chkR (1,d,0,0,st,(parseMapL c).1) else (zeroR,(parseMapL c).2)
      | _ => (zeroR,7)
    | _ => (zeroR,7)
  else (zeroR,7)
theorem numsD_3 {a b c : Int} {pl : List (List UInt8)} {ns : List Int} (h : numsD [a,b,c] pl = some ns) : ∃ x y z,ns = [x,y,z] := by
  match pl,h with
  | w1 :: r1,h =>
    cases h1 : numP a w1 with
    | none => rw [numsD_none h1] at h; cases h
    | some x =>
      rw [numsD_some h1] at h
      match r1,h with
      | w2 :: r2,h =>
        cases h2 : numP b w2 with
        | none => rw [numsD_none h2] at h; cases h
        | some y =>
          rw [numsD_some h2] at h
          match r2,h with
          | w3 :: r3,h =>
            cases h3 : numP c w3 with
            | none => rw [numsD_none h3] at h; cases h
            | some z =>
              rw [numsD_some h3] at h
              match r3,h with
              | [],h => exact ⟨x,y,z,by simpa [numsD] using h.symm⟩
theorem numsD_2 {a b : Int} {pl : List (List UInt8)} {ns : List Int} (h : numsD [a,b] pl = some ns) : ∃ x y,ns = [x,y] := by
  match pl,h with
  | w1 :: r1,h =>
    cases h1 : numP a w1 with
    | none => rw [numsD_none h1] at h; cases h
    | some x =>
      rw [numsD_some h1] at h
      match r1,h with
      | w2 :: r2,h =>
        cases h2 : numP b w2 with
        | none => rw [numsD_none h2] at h; cases h
        | some y =>
          rw [numsD_some h2] at h
          match r2,h with
          | [],h => exact ⟨x,y,by simpa [numsD] using h.symm⟩
theorem three_of {α : Type} {l : List α} (h : l.length = 3) : ∃ a b c,l = [a,b,c] := by
  match l,h with
  | [a,b,c],_ => exact ⟨a,b,c,rfl⟩
theorem nodesP_len : ∀ {ws : List (List UInt8)} {ns : List (Int × Int)},nodesP ws = some ns → ns.length = ws.length
  | [],ns,h => by cases h; rfl
  | w :: ws,ns,h => by
    cases hn : nodeP w with
    | none => rw [nodesP_none hn] at h; cases h
    | some p =>
      rw [nodesP_cons hn] at h
      obtain ⟨ms,h1,rfl⟩ := Option.map_eq_some_iff.1 h
      simp [nodesP_len h1]
theorem parseMapL_len (l : List UInt8) : (parseMapL l).1.length ≤ l.length + 1 := by
  unfold parseMapL
  split
  · simp
  · rename_i ns hn
    have h1 := nodesP_len hn
    have h2 := cutL_length 32 l
    split
    · show ns.length ≤ _; omega
    · simp
def RulesRes (H : AHeap) (p : RulesT × Int) (v : Value) (H1 : AHeap) : Prop :=
  ∃ s,v = .tuple #[rulesV p.1.1 p.1.2.1 p.1.2.2.1 p.1.2.2.2.1 p.1.2.2.2.2.1 s,.int .i64 p.2] ∧ Ext H H1 ∧ Pairs H1 p.1.2.2.2.2.2 s
abbrev nilS : Value := .slice none 0 0
theorem pairsNil (H : AHeap) : Pairs H [] nilS := OwnP.pairs (OwnP.nil H H)
section
variable {H : AHeap}
set_option maxHeartbeats 8000000 in
theorem parseRules_c (hs : StrH H) (hW : WordsAt H) {l : List UInt8} (hl : l.length ≤ 60000) : ACall Go.Proofs.Tryz.prog 21 [.string (bs l)] H (RulesRes H (parseRulesL l)) := by
  have h6 : 6 < H.length := (List.getElem?_eq_some_iff.1 hs.tab).1
  (refine a21 ?_; simp only [n21,List.replicate,List.length_cons,List.length_nil,List.cons_append,List.nil_append]; first | refine Go.Lq.q1 ?_ | refine Go.Lq.q2 ?_ | refine Go.Lq.q6 ?_ | refine Go.Lq.q7 ?_ | refine Go.Lq.qh rfl ?_ | skip)
  (repeat(first|refine yw ?_|((first|apply yd|apply ye);simp (disch:=first|exact zz|fail) only[go_sem,dec_f (show ¬ (60000 : Int) < (l.length : Int) by omega)];with_reducible rfl)))
  refine cond_f rfl ?_
  (refine yg ?_)
  (simp only [List.length_append,List.length_cons,List.length_nil,Nat.zero_add,Nat.add_assoc,Nat.reduceAdd])
  obtain ⟨G,hG⟩ : ∃ G,G = H ++ [AObj.cells true 0 [.int .i64 0,.int .i64 0,.int .i64 0,.int .i64 0,.int .i64 0,.slice none 0 0]] ++ [AObj.cells true 0 [.int .i64 0,.int .i64 0,.int .i64 0,.int .i64 0,.int .i64 0,.slice none 0 0]] := ⟨_,rfl⟩
  have k2 : G[H.length]? = some (.cells true 0 (rulesC 0 0 0 0 0 nilS)) := by rw [hG]; simp [rulesC]
  have k4 : G[H.length + 1]? = some (.cells true 0 (rulesC 0 0 0 0 0 nilS)) := by rw [hG]; simp [rulesC]
  have lG : G.length = H.length + 2 := by rw [hG]; simp
  have xG : Ext H G := by rw [hG]; exact ((Ext.refl H).app _).app _
  rw [← hG]
  clear hG
  have hc := cut_len l
  (refine aops_call_to (cut_c (hs.ext xG) (l := l) (m := [32]) (by omega)) ?_)
  obtain ⟨wd,hwd⟩ : ∃ wd,wd = (Lib.cut l [32]).1 := ⟨_,rfl⟩
  obtain ⟨rs,hrs⟩ : ∃ rs,rs = (Lib.cut l [32]).2.1 := ⟨_,rfl⟩
  rw [← hwd,← hrs]
  rw [← hwd,← hrs] at hc
  have hP : parseRulesL l = if wd = ratioB then
      match numsD [4,4,4] (cutL 32 rs) with
      | some [d,n,m] => chkR (0,d,n,m,0,[])
      | _ => (zeroR,7)
    else if wd = mapB then
      match cutN 32 2 rs with
      | [a,b,c] =>
        match numsD [4,13] [a,b] with
        | some [d,st] => if (parseMapL c).2 = 0 then chkR (1,d,0,0,st,(parseMapL c).1) else (zeroR,(parseMapL c).2)
        | _ => (zeroR,7)
      | _ => (zeroR,7)
    else (zeroR,7) := by rw [hwd,hrs]; rfl
  (refine yg ?_)
  (refine aops_call_to (index2_c (a := ratioB) (b := mapB) (m := wd) (hW.ext xG).txts) ?_)
  by_cases hA : wd = ratioB
  · rw [if_pos hA] at hP ⊢
    have hst : storeR 1 (.pointer (some ⟨H.length + 1,0,none⟩)) (.int .i64 0) G = some (undef,G) := by
      have := store_in (i := 0) (w := .int .i64 0) (v := .int .i64 0) k4 (by simp [rulesC]) rfl rfl
      rw [this]
      have : (rulesC 0 0 0 0 0 nilS).set 0 (.int .i64 0) = rulesC 0 0 0 0 0 nilS := rfl
      rw [this,set_same k4]
    have l0 : loadR (.pointer (some ⟨H.length + 1,0,none⟩)) G = some (.int .i64 0,G) := by rw [load_at k4]; rfl
    (repeat(first|refine yw ?_|((first|apply yd|apply ye);simp (disch:=first|exact zz|fail) only[go_sem,hst,l0];with_reducible rfl)))
    refine cond_t rfl ?_
    (refine yg ?_)
    (refine aops_call_to (splitB_c (hs.ext xG) (l := rs) (by omega)) ?_)
    obtain ⟨pl,hpl⟩ : ∃ pl,pl = cutL 32 rs := ⟨_,rfl⟩
    rw [← hpl] at hP ⊢
    have hpm : ∀ x ∈ pl,x.length ≤ 100000 := fun x hx => by have := cutL_piece 32 rs x (by rw [← hpl]; exact hx); omega
    have hpn : pl.length ≤ 100001 := by have := cutL_length 32 rs; rw [← hpl] at this; omega
    (refine yg ?_)
    (simp only [List.length_append,List.length_cons,List.length_nil,Nat.zero_add,Nat.add_assoc,Nat.reduceAdd])
    obtain ⟨J,hJ⟩ : ∃ J,J = G ++ [AObj.cells true 1 (strs pl)] ++ [AObj.cells true 1 [.int .i64 4,.int .i64 4,.int .i64 4]] ++ [AObj.cells true 1 [.pointer (some ⟨H.length + 1,1,none⟩),.pointer (some ⟨H.length + 1,2,none⟩),.pointer (some ⟨H.length + 1,3,none⟩)]] := ⟨_,rfl⟩
    have j1 : J[G.length]? = some (.cells true 1 (strs pl)) := by rw [hJ]; simp
    have j2 : J[G.length + 1]? = some (.cells true 1 [.int .i64 4,.int .i64 4,.int .i64 4]) := by rw [hJ]; simp
    have j3 : J[G.length + 2]? = some (.cells true 1 (ptrsB (H.length + 1) [1,2,3])) := by rw [hJ]; simp [ptrsB]
    have xJ' : Ext G J := by rw [hJ]; exact (((Ext.refl G).app _).app _).app _
    have lJ : J.length = G.length + 3 := by rw [hJ]; simp
    have xJ := xG.trans xJ'
    have jb := ext_at xJ' k4
    have jr := ext_at xJ' k2
    rw [← hJ]
    clear hJ
    refine aops_call ((parsed_c (hs.ext xJ) (ws := pl) (ds := [4,4,4]) (os := [1,2,3]) (cs := rulesC 0 0 0 0 0 nilS) (b := H.length + 1) (Txts.of_cells j1) (Sl.of j2 rfl) (Sl.of j3 rfl) jb (by omega) rfl
      (by intro o ho; simp at ho; rcases ho with rfl | rfl | rfl <;> simp [rulesC]) (by show G.length ≠ _; omega) (by show G.length + 1 ≠ _; omega) (by show G.length + 2 ≠ _; omega) hpm hpn (by simp)).mono fun v1 J1 ⟨cs',hJ1,hcl,hv1,hput⟩ => ?_)
    subst hv1
    have jb1 : J1[H.length + 1]? = some (.cells true 0 cs') := by rw [hJ1]; exact get_set_self jb
    have jr1 : J1[H.length]? = some (.cells true 0 (rulesC 0 0 0 0 0 nilS)) := by rw [hJ1,List.getElem?_set_ne (by omega)]; exact jr
    have xJ1 : Ext H J1 := by rw [hJ1]; exact xJ.set (by omega) _
    have hst6 : ∀ {u : List Value},u.length = 6 → u.all isAtom = true → storeR 6 (.pointer (some ⟨H.length,0,none⟩)) (.agg ⟨u⟩) J1 = some (undef,J1.set H.length (.cells true 0 u)) := fun h1 h2 => store_all jr1 (by simp [rulesC,h1]) h2 h1.symm
    have sz6 := hst6 (u := [.int .i64 0,.int .i64 0,.int .i64 0,.int .i64 0,.int .i64 0,.slice none 0 0]) rfl rfl
    have bad : ∀ e : Int,e ≠ 0 → parseRulesL l = (zeroR,e) → RulesRes H (parseRulesL l) (.tuple #[rulesV 0 0 0 0 0 nilS,.int .i64 e]) (J1.set H.length (.cells true 0 [.int .i64 0,.int .i64 0,.int .i64 0,.int .i64 0,.int .i64 0,.slice none 0 0])) := fun e _ hp => by
      rw [hp]
      exact ⟨nilS,rfl,xJ1.set (Nat.le_refl _) _,pairsNil _⟩
    cases hq : numsD [4,4,4] pl with
    | none =>
      rw [hq] at hP
      have hP : parseRulesL l = (zeroR,7) := hP
      (repeat(first|refine yw ?_|((first|apply yd|apply ye);simp (disch:=first|exact zz|fail) only[go_sem,Option.isSome_none];with_reducible rfl)))
      (refine aops_call_to (unless_c _ _) ?_)
      (refine yg ?_)
      refine cond_f rfl ?_
      (refine yg ?_)
      refine cond_t rfl ?_
      (repeat(first|refine yw ?_|((first|apply yd|apply ye);simp (disch:=first|exact zz|fail) only[go_sem,sz6];with_reducible rfl)))
      exact fin_l2 (loadN_at (k := 0) (n := 6) (get_set_self jr1) (by simp)) (bad 7 (by decide) hP)
    | some ns =>
      obtain ⟨d,n,m,rfl⟩ := numsD_3 hq
      obtain rfl : cs' = rulesC 0 d n m 0 nilS := hput _ hq
      rw [hq] at hP
      have hP : parseRulesL l = chkR (0,d,n,m,0,[]) := hP
      (repeat(first|refine yw ?_|((first|apply yd|apply ye);simp (disch:=first|exact zz|fail) only[go_sem,Option.isSome_some];with_reducible rfl)))
      (refine aops_call_to (unless_c _ _) ?_)
      (refine yg ?_)
      refine cond_t rfl ?_
      have l6 : loadNR 6 (.pointer (some ⟨H.length + 1,0,none⟩)) J1 = some (rulesV 0 d n m 0 nilS,J1) := loadN_at jb1 (by simp [rulesC])
      (repeat(first|refine yw ?_|((first|apply yd|apply ye);simp (disch:=first|exact zz|fail) only[go_sem,l6];with_reducible rfl)))
      (refine aops_call_to (checkRules_c (kind := 0) (deg := d) (num := n) (den := m) (step := 0) (l := []) (v := nilS) (pairsNil _) (by simp)) ?_)
      by_cases he : rulesErrL 0 d n m 0 [] = 0
      · have hP : parseRulesL l = ((0,d,n,m,0,[]),0) := by rw [hP,chkR_ok (r := (0,d,n,m,0,[])) he]
        rw [he]
        have s6 := hst6 (u := rulesC 0 d n m 0 nilS) rfl rfl
        have s6 : storeR 6 (.pointer (some ⟨H.length,0,none⟩)) (rulesV 0 d n m 0 nilS) J1 = some (undef,J1.set H.length (.cells true 0 (rulesC 0 d n m 0 nilS))) := s6
        (refine yg ?_)
        refine cond_f rfl ?_
        (repeat(first|refine yw ?_|((first|apply yd|apply ye);simp (disch:=first|exact zz|fail) only[go_sem,l6,s6];with_reducible rfl)))
        refine fin_l2 (u := rulesV 0 d n m 0 nilS) (loadN_at (k := 0) (n := 6) (get_set_self jr1) (by simp [rulesC])) ?_
        rw [hP]
        exact ⟨nilS,rfl,xJ1.set (Nat.le_refl _) _,pairsNil _⟩
      · have hP : parseRulesL l = (zeroR,rulesErrL 0 d n m 0 []) := by rw [hP,chkR_bad (r := (0,d,n,m,0,[])) he]; rfl
        (repeat(first|refine yw ?_|((first|apply yd|apply ye);simp (disch:=first|exact zz|fail) only[go_sem,dec_t (show rulesErrL 0 d n m 0 [] ≠ 0 from he)];with_reducible rfl)))
        refine cond_t rfl ?_
        (repeat(first|refine yw ?_|((first|apply yd|apply ye);simp (disch:=first|exact zz|fail) only[go_sem,sz6];with_reducible rfl)))
        exact fin_l2 (loadN_at (k := 0) (n := 6) (get_set_self jr1) (by simp)) (bad _ he hP)
  by_cases hB : wd = mapB
  rotate_left 1
  · rw [if_neg hA,if_neg hB] at hP ⊢
    have hst : storeR 1 (.pointer (some ⟨H.length + 1,0,none⟩)) (.int .i64 (-1)) G = some (undef,G.set (H.length + 1) (.cells true 0 (rulesC (-1) 0 0 0 0 nilS))) := store_in (i := 0) (w := .int .i64 (-1)) (v := .int .i64 (-1)) k4 (by simp [rulesC]) rfl rfl
    have g2 : (G.set (H.length + 1) (.cells true 0 (rulesC (-1) 0 0 0 0 nilS)))[H.length]? = some (.cells true 0 (rulesC 0 0 0 0 0 nilS)) := by rw [List.getElem?_set_ne (by omega)]; exact k2
    have g4 := get_set_self k4 (d := .cells true 0 (rulesC (-1) 0 0 0 0 nilS))
    have xG2 := xG.set (show H.length ≤ H.length + 1 by omega) (.cells true 0 (rulesC (-1) 0 0 0 0 nilS))
    generalize hG2 : (G.set (H.length + 1) (.cells true 0 (rulesC (-1) 0 0 0 0 nilS)) : AHeap) = G2 at hst g2 g4 xG2
    have l0 : loadR (.pointer (some ⟨H.length + 1,0,none⟩)) G2 = some (.int .i64 (-1),G2) := by rw [load_at g4]; rfl
    have sz6 : storeR 6 (.pointer (some ⟨H.length,0,none⟩)) (.agg ⟨[.int .i64 0,.int .i64 0,.int .i64 0,.int .i64 0,.int .i64 0,.slice none 0 0]⟩) G2 = some (undef,G2.set H.length (.cells true 0 [.int .i64 0,.int .i64 0,.int .i64 0,.int .i64 0,.int .i64 0,.slice none 0 0])) := store_all g2 rfl rfl rfl
    (repeat(first|refine yw ?_|((first|apply yd|apply ye);simp (disch:=first|exact zz|fail) only[go_sem,hst,l0];with_reducible rfl)))
    refine cond_f rfl ?_
    (refine yg ?_)
    refine cond_f rfl ?_
    (refine yg ?_)
    refine cond_f rfl ?_
    (refine yg ?_)
    refine cond_t rfl ?_
    (repeat(first|refine yw ?_|((first|apply yd|apply ye);simp (disch:=first|exact zz|fail) only[go_sem,sz6];with_reducible rfl)))
    refine fin_l2 (u := rulesV 0 0 0 0 0 nilS) (loadN_at (k := 0) (n := 6) (get_set_self g2) (by simp)) ?_
    rw [hP]
    exact ⟨nilS,rfl,xG2.set (Nat.le_refl _) _,pairsNil _⟩
  rw [if_neg hA,if_pos hB] at hP ⊢
  have hst : storeR 1 (.pointer (some ⟨H.length + 1,0,none⟩)) (.int .i64 1) G = some (undef,G.set (H.length + 1) (.cells true 0 (rulesC 1 0 0 0 0 nilS))) := store_in (i := 0) (w := .int .i64 1) (v := .int .i64 1) k4 (by simp [rulesC]) rfl rfl
  have g2 : (G.set (H.length + 1) (.cells true 0 (rulesC 1 0 0 0 0 nilS)))[H.length]? = some (.cells true 0 (rulesC 0 0 0 0 0 nilS)) := by rw [List.getElem?_set_ne (by omega)]; exact k2
  have g4 := get_set_self k4 (d := .cells true 0 (rulesC 1 0 0 0 0 nilS))
  have xG2 := xG.set (show H.length ≤ H.length + 1 by omega) (.cells true 0 (rulesC 1 0 0 0 0 nilS))
  have lG2 : (G.set (H.length + 1) (.cells true 0 (rulesC 1 0 0 0 0 nilS))).length = H.length + 2 := by simp [lG]
  generalize hG2 : (G.set (H.length + 1) (.cells true 0 (rulesC 1 0 0 0 0 nilS)) : AHeap) = G2 at hst g2 g4 xG2 lG2
  have l0 : loadR (.pointer (some ⟨H.length + 1,0,none⟩)) G2 = some (.int .i64 1,G2) := by rw [load_at g4]; rfl
  (repeat(first|refine yw ?_|((first|apply yd|apply ye);simp (disch:=first|exact zz|fail) only[go_sem,hst,l0];with_reducible rfl)))
  refine cond_f rfl ?_
  (refine yg ?_)
  refine cond_t rfl ?_
  (refine yg ?_)
  (refine aops_call_to (splitN_c (hs.ext xG2) (l := rs) (by omega)) ?_)
  obtain ⟨pl,hpl⟩ : ∃ pl,pl = cutN 32 2 rs := ⟨_,rfl⟩
  rw [← hpl] at hP ⊢
  have hpm : ∀ x ∈ pl,x.length ≤ 60000 := fun x hx => by have := cutN_piece 2 rs x (by rw [← hpl]; exact hx); omega
  have j1 : (G2 ++ [AObj.cells true 1 (strs pl)])[G2.length]? = some (.cells true 1 (strs pl)) := at_new
  have j2 := at_app (N := [AObj.cells true 1 (strs pl)]) g2
  have j4 := at_app (N := [AObj.cells true 1 (strs pl)]) g4
  have xJ := xG2.app [AObj.cells true 1 (strs pl)]
  have lJ : (G2 ++ [AObj.cells true 1 (strs pl)]).length = H.length + 3 := by simp [lG2]
  generalize hJ : (G2 ++ [AObj.cells true 1 (strs pl)] : AHeap) = J at j1 j2 j4 xJ lJ
  have tJ : Txts J pl (.slice (some ⟨G2.length,0,none⟩) pl.length pl.length) := Txts.of_cells j1
  have hid : idOf (.slice (some ⟨G2.length,0,none⟩) pl.length pl.length) = G2.length := rfl
  by_cases h3 : pl.length = 3
  rotate_left 1
  · have hP : parseRulesL l = (zeroR,7) := by
      rw [hP]
      match pl,h3 with
      | [],_ => rfl
      | [_],_ => rfl
      | [_,_],_ => rfl
      | [_,_,_],h => exact absurd rfl h
      | _ :: _ :: _ :: _ :: _,_ => rfl
    have sz6 : storeR 6 (.pointer (some ⟨H.length,0,none⟩)) (.agg ⟨[.int .i64 0,.int .i64 0,.int .i64 0,.int .i64 0,.int .i64 0,.slice none 0 0]⟩) J = some (undef,J.set H.length (.cells true 0 [.int .i64 0,.int .i64 0,.int .i64 0,.int .i64 0,.int .i64 0,.slice none 0 0])) := store_all j2 rfl rfl rfl
    (repeat(first|refine yw ?_|((first|apply yd|apply ye);simp (disch:=first|exact zz|fail) only[go_sem,tJ.len,tJ.idx,tJ.load,dec_t (show ((pl.length : Nat) : Int) ≠ 3 by omega)];with_reducible rfl)))
    refine cond_t rfl ?_
    (repeat(first|refine yw ?_|((first|apply yd|apply ye);simp (disch:=first|exact zz|fail) only[go_sem,sz6];with_reducible rfl)))
    refine fin_l2 (u := rulesV 0 0 0 0 0 nilS) (loadN_at (k := 0) (n := 6) (get_set_self j2) (by simp)) ?_
    rw [hP]
    exact ⟨nilS,rfl,xJ.set (Nat.le_refl _) _,pairsNil _⟩
  obtain ⟨wa,wb,wc,rfl⟩ := three_of h3
  have hP : parseRulesL l = match numsD [4,13] [wa,wb] with
      | some [d,st] => if (parseMapL wc).2 = 0 then chkR (1,d,0,0,st,(parseMapL wc).1) else (zeroR,(parseMapL wc).2)
      | _ => (zeroR,7) := hP
  have hto := Sl.to (H' := J) (m := 2) (k := .i64) tJ (by decide) (by simp)
  have tU : Txts J [wa,wb] (toV (.slice (some ⟨G2.length,0,none⟩) 3 3) 2) := Sl.upto (m := 2) tJ (by simp)
  have hidU : idOf (toV (.slice (some ⟨G2.length,0,none⟩) 3 3) 2) = G2.length := rfl
  have hto : sliceR 1 (.slice (some ⟨G2.length,0,none⟩) 3 3) none (some (.int .i64 2)) none J = some (toV (.slice (some ⟨G2.length,0,none⟩) 3 3) 2,J) := hto
  generalize (toV (.slice (some ⟨G2.length,0,none⟩) 3 3) 2) = uv at hto tU hidU
  have hln : lenR (.slice (some ⟨G2.length,0,none⟩) 3 3) J = some (.int .i64 3,J) := rfl
  have hl3 : [wa,wb,wc].length = 3 := rfl
  rw [hl3]
  (repeat(first|refine yw ?_|((first|apply yd|apply ye);simp (disch:=first|exact zz|fail) only[go_sem,hln,hto];with_reducible rfl)))
  (simp only [List.length_append,List.length_cons,List.length_nil,Nat.zero_add,Nat.add_assoc,Nat.reduceAdd])
  obtain ⟨Q,hQ⟩ : ∃ Q,Q = J ++ [AObj.cells true 1 [.int .i64 4,.int .i64 13]] ++ [AObj.cells true 1 [.pointer (some ⟨H.length + 1,1,none⟩),.pointer (some ⟨H.length + 1,4,none⟩)]] := ⟨_,rfl⟩
  have xQ' : Ext J Q := by rw [hQ]; exact ((Ext.refl J).app _).app _
  have q2 : Q[J.length]? = some (.cells true 1 [.int .i64 4,.int .i64 13]) := by rw [hQ]; simp
  have q3 : Q[J.length + 1]? = some (.cells true 1 (ptrsB (H.length + 1) [1,4])) := by rw [hQ]; simp [ptrsB]
  have qb := ext_at xQ' j4
  have qr := ext_at xQ' j2
  have xQ := xJ.trans xQ'
  have tQ := tJ.ext xQ'
  rw [← hQ]
  clear hQ
  refine aops_call ((parsed_c (hs.ext xQ) (ws := [wa,wb]) (ds := [4,13]) (os := [1,4]) (cs := rulesC 1 0 0 0 0 nilS) (b := H.length + 1) (tU.ext xQ') (Sl.of q2 rfl) (Sl.of q3 rfl) qb (by omega) rfl
      (by intro o ho; simp at ho; rcases ho with rfl | rfl <;> simp [rulesC]) (by rw [hidU]; omega) (by show J.length ≠ _; omega) (by show J.length + 1 ≠ _; omega)
      (fun x hx => by have := hpm x (by simp at hx ⊢; rcases hx with h | h <;> simp [h]); omega) (by simp) (by simp)).mono fun v1 J1 ⟨cs',hJ1,hcl,hv1,hput⟩ => ?_)
  subst hv1
  have jb1 : J1[H.length + 1]? = some (.cells true 0 cs') := by rw [hJ1]; exact get_set_self qb
  have jr1 : J1[H.length]? = some (.cells true 0 (rulesC 0 0 0 0 0 nilS)) := by rw [hJ1,List.getElem?_set_ne (by omega)]; exact qr
  have xJ1 : Ext H J1 := by rw [hJ1]; exact xQ.set (by omega) _
  have t1 : Txts J1 [wa,wb,wc] (.slice (some ⟨G2.length,0,none⟩) 3 3) := by rw [hJ1]; exact Sl.set_ne tQ (by show G2.length ≠ _; omega) _
  have s1 : StrH J1 := hs.ext xJ1
  clear hJ1
  have hcw := hpm wc (by simp)
  cases hq : numsD [4,13] [wa,wb] with
  | none =>
    rw [hq] at hP
    have hP : parseRulesL l = (zeroR,7) := hP
    have sz6 : storeR 6 (.pointer (some ⟨H.length,0,none⟩)) (.agg ⟨[.int .i64 0,.int .i64 0,.int .i64 0,.int .i64 0,.int .i64 0,.slice none 0 0]⟩) J1 = some (undef,J1.set H.length (.cells true 0 [.int .i64 0,.int .i64 0,.int .i64 0,.int .i64 0,.int .i64 0,.slice none 0 0])) := store_all jr1 rfl rfl rfl
    (repeat(first|refine yw ?_|((first|apply yd|apply ye);simp (disch:=first|exact zz|fail) only[go_sem,Option.isSome_none];with_reducible rfl)))
    refine cond_t rfl ?_
    (repeat(first|refine yw ?_|((first|apply yd|apply ye);simp (disch:=first|exact zz|fail) only[go_sem,sz6];with_reducible rfl)))
    refine fin_l2 (u := rulesV 0 0 0 0 0 nilS) (loadN_at (k := 0) (n := 6) (get_set_self jr1) (by simp)) ?_
    rw [hP]
    exact ⟨nilS,rfl,xJ1.set (Nat.le_refl _) _,pairsNil _⟩
  | some ns =>
    obtain ⟨d,st,rfl⟩ := numsD_2 hq
    obtain rfl : cs' = rulesC 1 d 0 0 st nilS := hput _ hq
    rw [hq] at hP
    have hP : parseRulesL l = if (parseMapL wc).2 = 0 then chkR (1,d,0,0,st,(parseMapL wc).1) else (zeroR,(parseMapL wc).2) := hP
    have i2 : idxR 1 (.slice (some ⟨G2.length,0,none⟩) 3 3) (.int .i64 2) J1 = some (addrOf (.slice (some ⟨G2.length,0,none⟩) 3 3) 2,J1) := t1.idx (i := 2) (by omega) (by simp)
    have l2 : loadR (addrOf (.slice (some ⟨G2.length,0,none⟩) 3 3) 2) J1 = some (.string (bs wc),J1) := t1.load (Ext.refl _) (k := 2) (by simp)
    (repeat(first|refine yw ?_|((first|apply yd|apply ye);simp (disch:=first|exact zz|fail) only[go_sem,Option.isSome_some];with_reducible rfl)))
    refine cond_f rfl ?_
    (repeat(first|refine yw ?_|((first|apply yd|apply ye);simp (disch:=first|exact zz|fail) only[go_sem,i2,l2];with_reducible rfl)))
    refine aops_call ((parseMap_c s1 (l := wc) hcw).mono fun v2 J2 ⟨ev,eJ⟩ => ?_)
    subst ev
    have x12 : Ext J1 J2 := by rw [eJ]; exact (Ext.refl _).app _
    have hpr : Pairs J2 (parseMapL wc).1 (retV J1 (parseMapL wc).1.length) := by rw [eJ]; exact Pairs.ret
    clear eJ
    have jb2 := ext_at x12 jb1
    have jr2 := ext_at x12 jr1
    have xJ2 := xJ1.trans x12
    have hat := hpr.atom
    have hls := (List.getElem?_eq_some_iff.1 jb1).1
    have hid1 : idOf (retV J1 (parseMapL wc).1.length) ≠ H.length + 1 ∧ idOf (retV J1 (parseMapL wc).1.length) ≠ H.length := by
      unfold retV
      split
      · exact ⟨by show (0 : Nat) ≠ _; omega,by show (0 : Nat) ≠ _; omega⟩
      · exact ⟨by show J1.length ≠ _; omega,by show J1.length ≠ _; omega⟩
    generalize retV J1 (parseMapL wc).1.length = sv at hpr hat hid1
    obtain ⟨ml,hml⟩ : ∃ ml,ml = (parseMapL wc).1 := ⟨_,rfl⟩
    obtain ⟨me,hme⟩ : ∃ me,me = (parseMapL wc).2 := ⟨_,rfl⟩
    rw [← hml,← hme] at hP
    rw [← hml] at hpr
    rw [← hme]
    have hst5 : storeR 1 (.pointer (some ⟨H.length + 1,5,none⟩)) (.agg ⟨[sv]⟩) J2 = some (undef,J2.set (H.length + 1) (.cells true 0 (rulesC 1 d 0 0 st sv))) := store_in jb2 (by simp [rulesC]) hat rfl
    have jb3 := get_set_self jb2 (d := .cells true 0 (rulesC 1 d 0 0 st sv))
    have jr3 : (J2.set (H.length + 1) (.cells true 0 (rulesC 1 d 0 0 st sv)))[H.length]? = some (.cells true 0 (rulesC 0 0 0 0 0 nilS)) := by rw [List.getElem?_set_ne (by omega)]; exact jr2
    have xJ3 := xJ2.set (show H.length ≤ H.length + 1 by omega) (.cells true 0 (rulesC 1 d 0 0 st sv))
    have hp3 : Pairs (J2.set (H.length + 1) (.cells true 0 (rulesC 1 d 0 0 st sv))) ml sv := Sl.set_ne hpr hid1.1 _
    (repeat(first|refine yw ?_|((first|apply yd|apply ye);simp (disch:=first|exact zz|fail) only[go_sem,hst5];with_reducible rfl)))
    generalize (J2.set (H.length + 1) (.cells true 0 (rulesC 1 d 0 0 st sv)) : AHeap) = K at jb3 jr3 xJ3 hp3
    have hst6 : ∀ {u : List Value},u.length = 6 → u.all isAtom = true → storeR 6 (.pointer (some ⟨H.length,0,none⟩)) (.agg ⟨u⟩) K = some (undef,K.set H.length (.cells true 0 u)) := fun h1 h2 => store_all jr3 (by simp [rulesC,h1]) h2 h1.symm
    have sz6 := hst6 (u := [.int .i64 0,.int .i64 0,.int .i64 0,.int .i64 0,.int .i64 0,.slice none 0 0]) rfl rfl
    have bad : ∀ e : Int,e ≠ 0 → parseRulesL l = (zeroR,e) → RulesRes H (parseRulesL l) (.tuple #[rulesV 0 0 0 0 0 nilS,.int .i64 e]) (K.set H.length (.cells true 0 [.int .i64 0,.int .i64 0,.int .i64 0,.int .i64 0,.int .i64 0,.slice none 0 0])) := fun e _ hp => by
      rw [hp]
      exact ⟨nilS,rfl,xJ3.set (Nat.le_refl _) _,pairsNil _⟩
    have l6 : loadNR 6 (.pointer (some ⟨H.length + 1,0,none⟩)) K = some (rulesV 1 d 0 0 st sv,K) := loadN_at jb3 (by simp [rulesC])
    by_cases he0 : me = 0
    rotate_left 1
    · rw [if_neg he0] at hP
      refine cond_f (by show Value.bool (decide (me = 0)) = _; rw [dec_f he0]) ?_
      (repeat(first|refine yw ?_|((first|apply yd|apply ye);simp (disch:=first|exact zz|fail) only[go_sem,dec_t (show me ≠ 0 from he0)];with_reducible rfl)))
      refine cond_t rfl ?_
      (repeat(first|refine yw ?_|((first|apply yd|apply ye);simp (disch:=first|exact zz|fail) only[go_sem,sz6];with_reducible rfl)))
      exact fin_l2 (loadN_at (k := 0) (n := 6) (get_set_self jr3) (by simp)) (bad _ he0 hP)
    rw [if_pos he0] at hP
    refine cond_t (by show Value.bool (decide (me = 0)) = _; rw [dec_t he0]) ?_
    (repeat(first|refine yw ?_|((first|apply yd|apply ye);simp (disch:=first|exact zz|fail) only[go_sem,l6];with_reducible rfl)))
    (refine aops_call_to (checkRules_c (kind := 1) (deg := d) (num := 0) (den := 0) (step := st) (l := ml) (v := sv) hp3 (by rw [hml]; have := parseMapL_len wc; omega)) ?_)
    by_cases he : rulesErrL 1 d 0 0 st ml = 0
    · have hP : parseRulesL l = ((1,d,0,0,st,ml),0) := by rw [hP,chkR_ok (r := (1,d,0,0,st,ml)) he]
      rw [he]
      have s6 : storeR 6 (.pointer (some ⟨H.length,0,none⟩)) (rulesV 1 d 0 0 st sv) K = some (undef,K.set H.length (.cells true 0 (rulesC 1 d 0 0 st sv))) := hst6 (u := rulesC 1 d 0 0 st sv) rfl (by simp [rulesC,hat,isAtom_int])
      (refine yg ?_)
      refine cond_f rfl ?_
      (repeat(first|refine yw ?_|((first|apply yd|apply ye);simp (disch:=first|exact zz|fail) only[go_sem,l6,s6];with_reducible rfl)))
      refine fin_l2 (u := rulesV 1 d 0 0 st sv) (loadN_at (k := 0) (n := 6) (get_set_self jr3) (by simp [rulesC])) ?_
      rw [hP]
      exact ⟨sv,rfl,xJ3.set (Nat.le_refl _) _,Sl.set_ne hp3 hid1.2 _⟩
    · have hP : parseRulesL l = (zeroR,rulesErrL 1 d 0 0 st ml) := by rw [hP,chkR_bad (r := (1,d,0,0,st,ml)) he]; rfl
      (repeat(first|refine yw ?_|((first|apply yd|apply ye);simp (disch:=first|exact zz|fail) only[go_sem,dec_t (show rulesErrL 1 d 0 0 st ml ≠ 0 from he)];with_reducible rfl)))
      refine cond_t rfl ?_
      (repeat(first|refine yw ?_|((first|apply yd|apply ye);simp (disch:=first|exact zz|fail) only[go_sem,sz6];with_reducible rfl)))
      exact fin_l2 (loadN_at (k := 0) (n := 6) (get_set_self jr3) (by simp)) (bad _ he hP)
end
end Go.Lq

namespace Go.Lq
open Go
open Go.Proofs
theorem join_snoc {ll : List (List UInt8)} {k : Nat} (h0 : 0 < k) (hk : k < ll.length) : Lib.join (ll.take (k + 1)) [32] = Lib.join (ll.take k) [32] ++ [32] ++ ll.getD k [] := by
  match ll,k,h0 with
  | p :: r,k + 1,_ =>
    have hk' : k < r.length := by simpa using hk
    have e1 : (p :: r).take (k + 1 + 1) = p :: (r.take k ++ [r.getD k []]) := by
      show p :: r.take (k + 1) = _
      rw [List.take_succ_eq_append_getElem hk']
      simp [List.getD,hk']
    have e2 : (p :: r).take (k + 1) = p :: r.take k := rfl
    have e3 : (p :: r).getD (k + 1) [] = r.getD k [] := rfl
    rw [e1,e2,e3,Lib.join_cons,Lib.join_cons]
    simp [Lib.joinTail,List.append_assoc]
theorem join_take_le : ∀ (ll : List (List UInt8)) (k : Nat),(Lib.join (ll.take k) [32]).length ≤ (Lib.join ll [32]).length
  | [],k => by simp
  | p :: r,0 => by simp [Lib.join_nil]
  | p :: r,k + 1 => by
    have key : ∀ (r : List (List UInt8)) (k : Nat),(Lib.joinTail [32] (r.take k)).length ≤ (Lib.joinTail [32] r).length := by
      intro r
      induction r with
      | nil => intro k; simp
      | cons q r ih =>
        intro k
        cases k with
        | zero => simp [Lib.joinTail]
        | succ k =>
          have := ih k
          simp only [Lib.joinTail,List.take_succ_cons,List.map_cons,List.flatten_cons,List.length_append] at this ⊢
          omega
    show (Lib.join (p :: r.take k) [32]).length ≤ _
    rw [Lib.join_cons,Lib.join_cons,List.length_append,List.length_append]
    have := key r k
    omega
theorem cut_no {l : List UInt8} (h : ¬ (Lib.cut l [32]).2.2 = true) : (Lib.cut l [32]).1 = l ∧ (Lib.cut l [32]).2.1 = [] := by
  unfold Lib.cut at h ⊢
  split
  · rename_i h0; rw [if_pos h0] at h; exact absurd rfl h
  · exact ⟨rfl,rfl⟩
theorem parse_no {l : List UInt8} (h : ¬ (Lib.cut l [32]).2.2 = true) : parseRulesL l = (zeroR,7) := by
  obtain ⟨e1,e2⟩ := cut_no h
  unfold parseRulesL
  rw [e1,e2]
  split
  · rfl
  · split <;> rfl
section
variable {H : AHeap}
theorem refNum5_c {l : List UInt8} {d : Int} (hd : d ≤ 18) (hl : l.length ≤ 1000000) : ACall Go.Proofs.Tryz.prog 67 [.string (bs l),.int .i64 d] H fun v H' => NumRes d l v ∧ H' = H :=
  (refNum4_c hd hl).mono fun v H' ⟨h1,h2⟩ => ⟨⟨_,by rw [h1,numPR hd],fun m hm => numP_fst hd hm⟩,h2⟩
set_option maxHeartbeats 8000000 in
theorem rParseRules_c {l : List UInt8} (hl : l.length ≤ 60000) : ACall Go.Proofs.Tryz.prog 23 [.string (bs l)] H (RulesRes H (parseRulesL l)) := by
  (refine a23 ?_; simp only [n23,List.replicate,List.length_cons,List.length_nil,List.cons_append,List.nil_append]; first | refine Go.Lq.q1 ?_ | refine Go.Lq.q2 ?_ | refine Go.Lq.q6 ?_ | refine Go.Lq.q7 ?_ | refine Go.Lq.qh rfl ?_ | skip)
  have hz : storeR 6 (.pointer (some ⟨H.length + 1,0,none⟩)) (.agg ⟨[.int .i64 0,.int .i64 0,.int .i64 0,.int .i64 0,.int .i64 0,.slice none 0 0]⟩) (H ++ [AObj.cells true 0 [.int .i64 0,.int .i64 0,.int .i64 0,.int .i64 0,.int .i64 0,.slice none 0 0]] ++ [AObj.cells true 0 [.int .i64 0,.int .i64 0,.int .i64 0,.int .i64 0,.int .i64 0,.slice none 0 0]]) =
      some (undef,H ++ [AObj.cells true 0 [.int .i64 0,.int .i64 0,.int .i64 0,.int .i64 0,.int .i64 0,.slice none 0 0]] ++ [AObj.cells true 0 [.int .i64 0,.int .i64 0,.int .i64 0,.int .i64 0,.int .i64 0,.slice none 0 0]]) := by
    have h : (H ++ [AObj.cells true 0 [.int .i64 0,.int .i64 0,.int .i64 0,.int .i64 0,.int .i64 0,.slice none 0 0]] ++ [AObj.cells true 0 [.int .i64 0,.int .i64 0,.int .i64 0,.int .i64 0,.int .i64 0,.slice none 0 0]])[H.length + 1]? = some (.cells true 0 [.int .i64 0,.int .i64 0,.int .i64 0,.int .i64 0,.int .i64 0,.slice none 0 0]) := by simp
    have hh := store_all (n := 6) (us := [.int .i64 0,.int .i64 0,.int .i64 0,.int .i64 0,.int .i64 0,.slice none 0 0]) h rfl rfl rfl
    rw [set_same h] at hh
    exact hh
  (repeat(first|refine yw ?_|((first|apply yd|apply ye);simp (disch:=first|exact zz|fail) only[go_sem,List.length_append,List.length_cons,List.length_nil,Nat.zero_add,hz,dec_f (show ¬ (60000 : Int) < (l.length : Int) by omega)];with_reducible rfl)))
  refine cond_f rfl ?_
  (refine yg ?_)
  refine aops_call_to (cut32_c (by omega)) ?_
  obtain ⟨pl,hpl⟩ : ∃ pl,pl = cutL 32 l := ⟨_,rfl⟩
  rw [← hpl]
  have hpm : ∀ x ∈ pl,x.length ≤ 60000 := fun x hx => by have := cutL_piece 32 l x (by rw [← hpl]; exact hx); omega
  have hpn : pl.length ≤ 60001 := by have := cutL_length 32 l; rw [← hpl] at this; omega
  obtain ⟨wd,hwd⟩ : ∃ wd,wd = (Lib.cut l [32]).1 := ⟨_,rfl⟩
  obtain ⟨rs,hrs⟩ : ∃ rs,rs = (Lib.cut l [32]).2.1 := ⟨_,rfl⟩
  have hP : parseRulesL l = if wd = ratioB then
      match numsD [4,4,4] (cutL 32 rs) with
      | some [d,n,m] => chkR (0,d,n,m,0,[])
      | _ => (zeroR,7)
    else if wd = mapB then
      match cutN 32 2 rs with
      | [a,b,c] =>
        match numsD [4,13] [a,b] with
        | some [d,st] => if (parseMapL c).2 = 0 then chkR (1,d,0,0,st,(parseMapL c).1) else (zeroR,(parseMapL c).2)
        | _ => (zeroR,7)
      | _ => (zeroR,7)
    else (zeroR,7) := by rw [hwd,hrs]; rfl
  have hcut := cut_cutL 32 l
  rw [← hpl,← hwd,← hrs] at hcut
  have hw0 : pl.getD 0 [] = wd := by
    rw [hcut]
    by_cases hf : (Lib.cut l [32]).2.2 = true
    · rw [if_pos hf]; rfl
    · rw [if_neg hf,hwd,(cut_no hf).1]; rfl
  have hp0 : 0 < pl.length := by rw [hcut]; split <;> simp
  have hone : ¬ (Lib.cut l [32]).2.2 = true → pl.length = 1 := fun hf => by rw [hcut,if_neg hf]; rfl
  have hwl : wd.length ≤ 60000 := by rw [← hw0]; exact hpm _ (by rw [List.getD_eq_getElem?_getD,List.getElem?_eq_getElem hp0]; exact List.getElem_mem _)
  (simp only [List.length_append,List.length_cons,List.length_nil,Nat.zero_add,Nat.add_assoc,Nat.reduceAdd])
  obtain ⟨G,hG⟩ : ∃ G,G = H ++ [AObj.cells true 0 [.int .i64 0,.int .i64 0,.int .i64 0,.int .i64 0,.int .i64 0,.slice none 0 0]] ++ [AObj.cells true 0 [.int .i64 0,.int .i64 0,.int .i64 0,.int .i64 0,.int .i64 0,.slice none 0 0]] ++ [AObj.cells true 1 (strs pl)] := ⟨_,rfl⟩
  have k2 : G[H.length]? = some (.cells true 0 (rulesC 0 0 0 0 0 nilS)) := by rw [hG]; simp [rulesC]
  have k4 : G[H.length + 1]? = some (.cells true 0 (rulesC 0 0 0 0 0 nilS)) := by rw [hG]; simp [rulesC]
  have k5 : G[H.length + 2]? = some (.cells true 1 (strs pl)) := by rw [hG]; simp
  have lG : G.length = H.length + 3 := by rw [hG]; simp
  have xG : Ext H G := by rw [hG]; exact (((Ext.refl H).app _).app _).app _
  rw [← hG]
  clear hG
  have hz2 : storeR 6 (.pointer (some ⟨G.length,0,none⟩)) (.agg ⟨[.int .i64 0,.int .i64 0,.int .i64 0,.int .i64 0,.int .i64 0,.slice none 0 0]⟩) (G ++ [AObj.cells true 0 [.int .i64 0,.int .i64 0,.int .i64 0,.int .i64 0,.int .i64 0,.slice none 0 0]]) =
      some (undef,G ++ [AObj.cells true 0 [.int .i64 0,.int .i64 0,.int .i64 0,.int .i64 0,.int .i64 0,.slice none 0 0]]) := by
    have h : (G ++ [AObj.cells true 0 [.int .i64 0,.int .i64 0,.int .i64 0,.int .i64 0,.int .i64 0,.slice none 0 0]])[G.length]? = some (.cells true 0 [.int .i64 0,.int .i64 0,.int .i64 0,.int .i64 0,.int .i64 0,.slice none 0 0]) := at_new
    have hh := store_all (n := 6) (us := [.int .i64 0,.int .i64 0,.int .i64 0,.int .i64 0,.int .i64 0,.slice none 0 0]) h rfl rfl rfl
    rw [set_same h] at hh
    exact hh
  have tG : Txts G pl (.slice (some ⟨H.length + 2,0,none⟩) pl.length pl.length) := Txts.of_cells k5
  have hids : idOf (.slice (some ⟨H.length + 2,0,none⟩) pl.length pl.length) = H.length + 2 := rfl
  generalize (Value.slice (some ⟨H.length + 2,0,none⟩) pl.length pl.length) = sv at tG hids
  obtain ⟨J,hJ⟩ : ∃ J,J = G ++ [AObj.cells true 0 [.int .i64 0,.int .i64 0,.int .i64 0,.int .i64 0,.int .i64 0,.slice none 0 0]] := ⟨_,rfl⟩
  have xJ' : Ext G J := by rw [hJ]; exact (Ext.refl G).app _
  have j2 := ext_at xJ' k2
  have j4 := ext_at xJ' k4
  have j6 : J[H.length + 3]? = some (.cells true 0 (rulesC 0 0 0 0 0 nilS)) := by rw [hJ,← lG]; exact at_new
  have tJ := tG.ext xJ'
  have xJ := xG.trans xJ'
  have lJ : J.length = H.length + 4 := by rw [hJ]; simp [lG]
  have i0 : idxR 1 sv (.int .i64 0) J = some (addrOf sv 0,J) := tJ.idx (i := 0) (by omega) (by omega)
  have l0 : loadR (addrOf sv 0) J = some (.string (bs wd),J) := by rw [tJ.load (Ext.refl _) hp0,hw0]
  have hst2 : ∀ {K : AHeap} {u : List Value},K[H.length]? = some (.cells true 0 (rulesC 0 0 0 0 0 nilS)) → u.length = 6 → u.all isAtom = true → storeR 6 (.pointer (some ⟨H.length,0,none⟩)) (.agg ⟨u⟩) K = some (undef,K.set H.length (.cells true 0 u)) := fun h h1 h2 => store_all h (by simp [rulesC,h1]) h2 h1.symm
  have hl6 : ∀ {K : AHeap},K[H.length + 1]? = some (.cells true 0 (rulesC 0 0 0 0 0 nilS)) → loadNR 6 (.pointer (some ⟨H.length + 1,0,none⟩)) K = some (rulesV 0 0 0 0 0 nilS,K) := fun h => loadN_at h (by simp [rulesC])
  have hs6 : ∀ {K : AHeap},K[H.length]? = some (.cells true 0 (rulesC 0 0 0 0 0 nilS)) → storeR 6 (.pointer (some ⟨H.length,0,none⟩)) (rulesV 0 0 0 0 0 nilS) K = some (undef,K.set H.length (.cells true 0 (rulesC 0 0 0 0 0 nilS))) := fun h => hst2 h rfl rfl
  have bad : ∀ {K : AHeap} (e : Int),Ext H K → parseRulesL l = (zeroR,e) → RulesRes H (parseRulesL l) (.tuple #[rulesV 0 0 0 0 0 nilS,.int .i64 e]) (K.set H.length (.cells true 0 (rulesC 0 0 0 0 0 nilS))) := fun {K} e hx hp => by
    rw [hp]
    exact ⟨nilS,rfl,hx.set (Nat.le_refl _) _,pairsNil _⟩
  have fin0 : ∀ {K : AHeap},K[H.length]? = some (.cells true 0 (rulesC 0 0 0 0 0 nilS)) → loadNR 6 (.pointer (some ⟨H.length,0,none⟩)) (K.set H.length (.cells true 0 (rulesC 0 0 0 0 0 nilS))) = some (rulesV 0 0 0 0 0 nilS,K.set H.length (.cells true 0 (rulesC 0 0 0 0 0 nilS))) := fun h => loadN_at (get_set_self h) (by simp [rulesC])
  (repeat(first|refine yw ?_|((first|apply yd|apply ye);simp (disch:=first|exact zz|fail) only[go_sem,hz2];with_reducible rfl)))
  rw [← hJ,lG]
  clear hJ hz2
  by_cases hA : wd = ratioB ∧ pl.length = 4
  · obtain ⟨hA1,hA4⟩ := hA
    have hf : (Lib.cut l [32]).2.2 = true := by
      by_cases hf : (Lib.cut l [32]).2.2 = true
      · exact hf
      · have := hone hf; omega
    rw [if_pos hf] at hcut
    obtain ⟨ql,hql⟩ : ∃ ql,ql = cutL 32 rs := ⟨_,rfl⟩
    rw [← hql] at hcut hP
    have hq3 : ql.length = 3 := by rw [hcut] at hA4; simpa using hA4
    rw [if_pos hA1] at hP
    (repeat(first|refine yw ?_|((first|apply yd|apply ye);simp (disch:=first|exact zz|fail) only[go_sem,tJ.len,i0,l0,dec_t (show wd = [114,97,116,105,111] from hA1),dec_t (show ((pl.length : Nat) : Int) = 4 by omega)];with_reducible rfl)))
    refine cond_t rfl ?_
    (refine yg ?_)
    refine awp_loop_n [false,false,true,true,true,true,true,true,true,false,false,false,false,false,false,false,false,false,false,false,false,false,false,false,false,false,false,false,false,false,false,false,false,false,false,false,false,false,false,false,false,false,false,false,false,false,false,false,false,false,false,false,false,false,false,false,false,false,false,false,false,false,false,false,false,false,false,false,false,false,false,false,false,false,false,false,false,false,false,false,false,false,false,false,false,false,false,false,false,false,false,false,false,false,false,false,false,false,false,false,false,false,false,false,false,false,false,false,false,false,false,false,false,false,false,false,false,false,false,false,false,false,false,false,false,false,false,false,false] 3 (fun j e K => ∃ ns : List Int,e = [junk,junk,.pointer (some ⟨H.length,0,none⟩),.int .i64 0,.pointer (some ⟨H.length + 1,0,none⟩),sv,.pointer (some ⟨H.length + 3,0,none⟩),.pointer (some ⟨J.length,0,none⟩),.int .i64 ((j : Int) + 1),junk,junk,junk,junk,junk,junk,junk,junk,junk,junk,junk,junk,junk,junk,junk,junk,junk,junk,junk,junk,junk,junk,junk,junk,junk,junk,junk,junk,junk,junk,junk,junk,junk,junk,junk,junk,junk,junk,junk,junk,junk,junk,junk,junk,junk,junk,junk,junk,junk,junk,junk,junk,junk,junk,junk,junk,junk,junk,junk,junk,junk,junk,junk,junk,junk,junk,junk,junk,junk,junk,junk,junk,junk,junk,junk,junk,junk,junk,junk,junk,junk,junk,junk,junk,junk,junk,junk,junk,junk,junk,junk,junk,junk,junk,junk,junk,junk,junk,junk,junk,junk,junk,junk,junk,junk,junk,junk,junk,junk,junk,junk,junk,junk,junk,junk,junk,junk,junk,junk,junk] ∧
      K = J ++ [AObj.cells true 0 (putAll [.int .i64 0,.int .i64 0,.int .i64 0,.int .i64 0] ([1,2,3].take j) ns)] ∧ ns.length = j ∧ numsD [4,4,4] ql = (numsD ([4,4,4].drop j) (ql.drop j)).map (ns ++ ·)) ?_ ?_
    · refine ⟨[],by simp [forget],rfl,rfl,?_⟩
      rw [List.drop_zero,List.drop_zero]; cases numsD [4,4,4] ql <;> simp
    rintro j e K hj ⟨ns,rfl,rfl,hns,hq⟩
    obtain ⟨cs,hcs⟩ : ∃ cs,cs = putAll [.int .i64 0,.int .i64 0,.int .i64 0,.int .i64 0] ([1,2,3].take j) ns := ⟨_,rfl⟩
    have hcl : cs.length = 4 := by rw [hcs,putAll_len]; rfl
    rw [← hcs]
    have tK := tJ.ext ((Ext.refl J).app [AObj.cells true 0 cs])
    have ka : (J ++ [AObj.cells true 0 cs])[J.length]? = some (.cells true 0 cs) := at_new
    have kb2 := at_app (N := [AObj.cells true 0 cs]) j2
    have kb4 := at_app (N := [AObj.cells true 0 cs]) j4
    have kb6 := at_app (N := [AObj.cells true 0 cs]) j6
    have xK := xJ.app [AObj.cells true 0 cs]
    (refine yg ?_)
    refine cond_p rfl (fun hlt => ?_) (fun hge => ?_)
    · have hj3 : j < 3 := by omega
      have hw : pl.getD (j + 1) [] = ql.getD j [] := by rw [hcut]; rfl
      have hwm : pl.getD (j + 1) [] ∈ pl := by rw [List.getD_eq_getElem?_getD,List.getElem?_eq_getElem (by omega)]; exact List.getElem_mem _
      have hwl' := hpm _ hwm
      have hd3 : [(4 : Int),4,4].getD j 0 = 4 := by
        have : j = 0 ∨ j = 1 ∨ j = 2 := by omega
        rcases this with rfl | rfl | rfl <;> rfl
      rw [drop_getD (d := ([] : List UInt8)) (by omega : j < ql.length),drop_getD (d := (0 : Int)) (by simpa using hj3),hd3] at hq
      have l1 := tK.load (Ext.refl _) (k := j + 1) (by omega)
      have i1 : idxR 1 sv (.int .i64 ((j : Int) + 1)) (J ++ [AObj.cells true 0 cs]) = some (addrOf sv (j + 1),J ++ [AObj.cells true 0 cs]) := by
        have := tK.idx (i := ((j + 1 : Nat) : Int)) (k := .i64) (H' := J ++ [AObj.cells true 0 cs]) (by omega) (by omega)
        simpa using this
      rw [hw] at l1 hwl'
      generalize hqw : ql.getD j [] = w at l1 hwl' hq
      have ia : idxAR 4 1 (.pointer (some ⟨J.length,0,none⟩)) (.int .i64 ((j : Int) + 1)) (J ++ [AObj.cells true 0 cs]) = some (.pointer (some ⟨J.length,j + 1,none⟩),J ++ [AObj.cells true 0 cs]) := by
        have := idxA_at (len := 4) (size := 1) (id := J.length) (off := 0) (k := .i64) (H := J ++ [AObj.cells true 0 cs]) (n := j + 1) (by omega)
        simpa using this
      have hst : ∀ n : Int,storeR 1 (.pointer (some ⟨J.length,j + 1,none⟩)) (.int .i64 n) (J ++ [AObj.cells true 0 cs]) = some (undef,J ++ [AObj.cells true 0 (cs.set (j + 1) (.int .i64 n))]) := fun n => by
        rw [store_in (i := j + 1) (w := .int .i64 n) (v := .int .i64 n) ka (by omega) rfl rfl]
        simp
      have hl6K := hl6 kb4
      have hs6K := hs6 kb2
      have hfK := fin0 kb2
      have badK := bad (K := J ++ [AObj.cells true 0 cs]) 7 xK
      obtain ⟨K1,hK1⟩ : ∃ K1,K1 = J ++ [AObj.cells true 0 cs] := ⟨_,rfl⟩
      rw [← hK1] at l1 i1 ia hst hl6K hs6K hfK badK ⊢
      (repeat(first|refine yw ?_|((first|apply yd|apply ye);simp (disch:=first|exact zz|fail) only[go_sem,i1,l1];with_reducible rfl)))
      refine aops_call ((refNum5_c (l := w) (d := 4) (by decide) (by omega)).mono fun v1 K2 ⟨⟨n,en,fn⟩,e⟩ => ?_)
      subst e
      subst en
      cases hq1 : numP 4 w with
      | none =>
        rw [numsD_none hq1] at hq
        have hq : numsD [4,4,4] ql = none := hq
        rw [hq] at hP
        have hP : parseRulesL l = (zeroR,7) := hP
        (repeat(first|refine yw ?_|((first|apply yd|apply ye);simp (disch:=first|exact zz|fail) only[go_sem,Option.isSome_none];with_reducible rfl)))
        refine cond_t rfl ?_
        (repeat(first|refine yw ?_|((first|apply yd|apply ye);simp (disch:=first|exact zz|fail) only[go_sem,hl6K,hs6K];with_reducible rfl)))
        exact fin_l2 hfK (badK hP)
      | some m =>
        obtain rfl := fn m hq1
        rw [numsD_some hq1] at hq
        have e1 : (j : Int) + 1 + 1 = ((j + 1 : Nat) : Int) + 1 := by omega
        (repeat(first|refine yw ?_|((first|apply yd|apply ye);simp (disch:=first|exact zz|fail) only[go_sem,Option.isSome_some];with_reducible rfl)))
        refine cond_f rfl ?_
        (repeat(first|refine yw ?_|((first|apply yd|apply ye);simp (disch:=first|exact zz|fail) only[go_sem,ia,hst n,e1];with_reducible rfl)))
        refine ⟨by omega,ns ++ [n],by simp [forget],?_,by simp [hns],?_⟩
        · rw [putAll_snoc _ [1,2,3] ns j n hns (by simpa using hj3),← hcs]
          have : [1,2,3].getD j 0 = j + 1 := by
            have : j = 0 ∨ j = 1 ∨ j = 2 := by omega
            rcases this with rfl | rfl | rfl <;> rfl
          rw [this]
        · rw [hq]; cases numsD ([4,4,4].drop (j + 1)) (ql.drop (j + 1)) <;> simp
    obtain rfl : j = 3 := by omega
    have hq : numsD [4,4,4] ql = some ns := by
      rw [hq,List.drop_eq_nil_of_le (by omega : ql.length ≤ 3)]
      show some (ns ++ []) = _
      rw [List.append_nil]
    obtain ⟨d,n,m,rfl⟩ := numsD_3 hq
    obtain rfl : cs = [.int .i64 0,.int .i64 d,.int .i64 n,.int .i64 m] := hcs
    rw [hq] at hP
    have hP : parseRulesL l = chkR (0,d,n,m,0,[]) := hP
    obtain ⟨K,hK⟩ : ∃ K,K = J ++ [AObj.cells true 0 [.int .i64 0,.int .i64 d,.int .i64 n,.int .i64 m]] := ⟨_,rfl⟩
    rw [← hK] at ka kb2 kb4 kb6 xK ⊢
    have a1 : idxAR 4 1 (.pointer (some ⟨J.length,0,none⟩)) (.int .i64 1) K = some (.pointer (some ⟨J.length,1,none⟩),K) := idxA_at (n := 1) (by omega)
    have a2 : idxAR 4 1 (.pointer (some ⟨J.length,0,none⟩)) (.int .i64 2) K = some (.pointer (some ⟨J.length,2,none⟩),K) := idxA_at (n := 2) (by omega)
    have a3 : idxAR 4 1 (.pointer (some ⟨J.length,0,none⟩)) (.int .i64 3) K = some (.pointer (some ⟨J.length,3,none⟩),K) := idxA_at (n := 3) (by omega)
    have b1 : loadR (.pointer (some ⟨J.length,1,none⟩)) K = some (.int .i64 d,K) := by rw [load_at ka]; rfl
    have b2 : loadR (.pointer (some ⟨J.length,2,none⟩)) K = some (.int .i64 n,K) := by rw [load_at ka]; rfl
    have b3 : loadR (.pointer (some ⟨J.length,3,none⟩)) K = some (.int .i64 m,K) := by rw [load_at ka]; rfl
    have sb : storeR 6 (.pointer (some ⟨H.length + 3,0,none⟩)) (.agg ⟨[.int .i64 0,.int .i64 d,.int .i64 n,.int .i64 m,.int .i64 0,.slice none 0 0]⟩) K = some (undef,K.set (H.length + 3) (.cells true 0 (rulesC 0 d n m 0 nilS))) := store_all kb6 rfl rfl rfl
    have c6 := get_set_self kb6 (d := .cells true 0 (rulesC 0 d n m 0 nilS))
    have c2 : (K.set (H.length + 3) (.cells true 0 (rulesC 0 d n m 0 nilS)))[H.length]? = some (.cells true 0 (rulesC 0 0 0 0 0 nilS)) := by rw [List.getElem?_set_ne (by omega)]; exact kb2
    have c4 : (K.set (H.length + 3) (.cells true 0 (rulesC 0 d n m 0 nilS)))[H.length + 1]? = some (.cells true 0 (rulesC 0 0 0 0 0 nilS)) := by rw [List.getElem?_set_ne (by omega)]; exact kb4
    have xC := xK.set (show H.length ≤ H.length + 3 by omega) (.cells true 0 (rulesC 0 d n m 0 nilS))
    obtain ⟨C,hC⟩ : ∃ C,C = K.set (H.length + 3) (.cells true 0 (rulesC 0 d n m 0 nilS)) := ⟨_,rfl⟩
    rw [← hC] at sb c6 c2 c4 xC
    have l6 : loadNR 6 (.pointer (some ⟨H.length + 3,0,none⟩)) C = some (rulesV 0 d n m 0 nilS,C) := loadN_at c6 (by simp [rulesC])
    (repeat(first|refine yw ?_|((first|apply yd|apply ye);simp (disch:=first|exact zz|fail) only[go_sem,a1,a2,a3,b1,b2,b3,sb];with_reducible rfl)))
    (repeat(first|refine yw ?_|((first|apply yd|apply ye);simp (disch:=first|exact zz|fail) only[go_sem,l6];with_reducible rfl)))
    (refine aops_call_to (rRulesErr_c (kind := 0) (deg := d) (num := n) (den := m) (step := 0) (l := []) (v := nilS) (pairsNil C) (by simp)) ?_)
    by_cases he : rulesErrL 0 d n m 0 [] = 0
    · have hP : parseRulesL l = ((0,d,n,m,0,[]),0) := by rw [hP,chkR_ok (r := (0,d,n,m,0,[])) he]
      rw [he]
      have s6 : storeR 6 (.pointer (some ⟨H.length,0,none⟩)) (rulesV 0 d n m 0 nilS) C = some (undef,C.set H.length (.cells true 0 (rulesC 0 d n m 0 nilS))) := hst2 c2 rfl rfl
      (refine yg ?_)
      refine cond_f rfl ?_
      (repeat(first|refine yw ?_|((first|apply yd|apply ye);simp (disch:=first|exact zz|fail) only[go_sem,l6,s6];with_reducible rfl)))
      refine fin_l2 (u := rulesV 0 d n m 0 nilS) (loadN_at (k := 0) (n := 6) (get_set_self c2) (by simp [rulesC])) ?_
      rw [hP]
      exact ⟨nilS,rfl,xC.set (Nat.le_refl _) _,pairsNil _⟩
    · have hP : parseRulesL l = (zeroR,rulesErrL 0 d n m 0 []) := by rw [hP,chkR_bad (r := (0,d,n,m,0,[])) he]; rfl
      (repeat(first|refine yw ?_|((first|apply yd|apply ye);simp (disch:=first|exact zz|fail) only[go_sem,dec_t (show rulesErrL 0 d n m 0 [] ≠ 0 from he)];with_reducible rfl)))
      refine cond_t rfl ?_
      (repeat(first|refine yw ?_|((first|apply yd|apply ye);simp (disch:=first|exact zz|fail) only[go_sem,hl6 c4,hs6 c2];with_reducible rfl)))
      exact fin_l2 (fin0 c2) (bad _ xC hP)
  by_cases hB : wd = mapB ∧ 4 ≤ pl.length
  rotate_left 1
  · have hP : parseRulesL l = (zeroR,7) := by
      by_cases hf : (Lib.cut l [32]).2.2 = true
      · rw [if_pos hf] at hcut
        rw [hP]
        split
        · rename_i h1
          rw [numsD_len (by intro h2; apply hA; refine ⟨h1,?_⟩; rw [hcut]; simp at h2 ⊢; omega)]
        · split
          · rename_i h2
            rcases cutN_three rs with ⟨a,b,r,e1,e2⟩ | ⟨e1,e2⟩
            · exfalso
              apply hB
              refine ⟨h2,?_⟩
              rw [hcut,e2]
              obtain ⟨x,xs,e⟩ := cutL_ne 32 r
              rw [e]; simp
            · match h3 : cutN 32 2 rs,e1 with
              | [],_ => rfl
              | [_],_ => rfl
              | [_,_],_ => rfl
              | [_,_,_],h => exact absurd rfl h
              | _ :: _ :: _ :: _ :: _,_ => rfl
          · rfl
      · exact parse_no hf
    by_cases h1 : wd = ratioB
    · have h2 : ¬ ((pl.length : Nat) : Int) = 4 := fun h => hA ⟨h1,by omega⟩
      have h3 : ¬ wd = mapB := fun h => ratio_map (h.symm.trans h1)
      (repeat(first|refine yw ?_|((first|apply yd|apply ye);simp (disch:=first|exact zz|fail) only[go_sem,tJ.len,i0,l0,dec_t (show wd = [114,97,116,105,111] from h1),dec_f h2];with_reducible rfl)))
      refine cond_f rfl ?_
      (repeat(first|refine yw ?_|((first|apply yd|apply ye);simp (disch:=first|exact zz|fail) only[go_sem,i0,l0,dec_f (show ¬ wd = [109,97,112] from h3)];with_reducible rfl)))
      refine cond_f rfl ?_
      (repeat(first|refine yw ?_|((first|apply yd|apply ye);simp (disch:=first|exact zz|fail) only[go_sem,hl6 j4,hs6 j2];with_reducible rfl)))
      exact fin_l2 (fin0 j2) (bad _ xJ hP)
    · by_cases h3 : wd = mapB
      · have h2 : ¬ (4 : Int) ≤ ((pl.length : Nat) : Int) := fun h => hB ⟨h3,by omega⟩
        (repeat(first|refine yw ?_|((first|apply yd|apply ye);simp (disch:=first|exact zz|fail) only[go_sem,i0,l0,dec_f (show ¬ wd = [114,97,116,105,111] from h1)];with_reducible rfl)))
        refine cond_f rfl ?_
        (repeat(first|refine yw ?_|((first|apply yd|apply ye);simp (disch:=first|exact zz|fail) only[go_sem,tJ.len,i0,l0,dec_t (show wd = [109,97,112] from h3),dec_f h2];with_reducible rfl)))
        refine cond_f rfl ?_
        (repeat(first|refine yw ?_|((first|apply yd|apply ye);simp (disch:=first|exact zz|fail) only[go_sem,hl6 j4,hs6 j2];with_reducible rfl)))
        exact fin_l2 (fin0 j2) (bad _ xJ hP)
      · (repeat(first|refine yw ?_|((first|apply yd|apply ye);simp (disch:=first|exact zz|fail) only[go_sem,i0,l0,dec_f (show ¬ wd = [114,97,116,105,111] from h1)];with_reducible rfl)))
        refine cond_f rfl ?_
        (repeat(first|refine yw ?_|((first|apply yd|apply ye);simp (disch:=first|exact zz|fail) only[go_sem,i0,l0,dec_f (show ¬ wd = [109,97,112] from h3)];with_reducible rfl)))
        refine cond_f rfl ?_
        (repeat(first|refine yw ?_|((first|apply yd|apply ye);simp (disch:=first|exact zz|fail) only[go_sem,hl6 j4,hs6 j2];with_reducible rfl)))
        exact fin_l2 (fin0 j2) (bad _ xJ hP)
  obtain ⟨hB1,hB4⟩ := hB
  have hne : ¬ wd = ratioB := fun h => ratio_map (hB1.symm.trans h)
  have hf : (Lib.cut l [32]).2.2 = true := by
    by_cases hf : (Lib.cut l [32]).2.2 = true
    · exact hf
    · have := hone hf; omega
  rw [if_pos hf] at hcut
  rw [if_neg hne,if_pos hB1] at hP
  obtain ⟨wa,wb,r2,e1,e2⟩ : ∃ a b r,cutN 32 2 rs = [a,b,r] ∧ cutL 32 rs = a :: b :: cutL 32 r := by
    rcases cutN_three rs with h | ⟨_,h⟩
    · exact h
    · rw [hcut] at hB4; simp at hB4; omega
  rw [e2] at hcut
  rw [e1] at hP
  have hP : parseRulesL l = match numsD [4,13] [wa,wb] with
      | some [d,st] => if (parseMapL r2).2 = 0 then chkR (1,d,0,0,st,(parseMapL r2).1) else (zeroR,(parseMapL r2).2)
      | _ => (zeroR,7) := hP
  obtain ⟨cl,hcl⟩ : ∃ cl,cl = cutL 32 r2 := ⟨_,rfl⟩
  rw [← hcl] at hcut
  have hcl0 : 0 < cl.length := by obtain ⟨x,xs,e⟩ := cutL_ne 32 r2; rw [hcl,e]; simp
  have hjoin : Lib.join cl [32] = r2 := by rw [hcl]; exact join_cutL r2
  have hrl : r2.length ≤ 60000 := by
    have h1 := cut_len l
    rw [← hrs] at h1
    have := cutN_piece 2 rs r2 (by rw [e1]; simp)
    omega
  have hplen : pl.length = cl.length + 3 := by rw [hcut]; simp
  have g1 : pl.getD 1 [] = wa := by rw [hcut]; rfl
  have g2 : pl.getD 2 [] = wb := by rw [hcut]; rfl
  have g3 : ∀ k,pl.getD (k + 3) [] = cl.getD k [] := fun k => by rw [hcut]; rfl
  have i1 : idxR 1 sv (.int .i64 1) J = some (addrOf sv 1,J) := tJ.idx (i := 1) (by omega) (by omega)
  have i2 : idxR 1 sv (.int .i64 2) J = some (addrOf sv 2,J) := tJ.idx (i := 2) (by omega) (by omega)
  have i3 : idxR 1 sv (.int .i64 3) J = some (addrOf sv 3,J) := tJ.idx (i := 3) (by omega) (by omega)
  have l1 : loadR (addrOf sv 1) J = some (.string (bs wa),J) := by rw [tJ.load (Ext.refl _) (k := 1) (by omega),g1]
  have l2 : loadR (addrOf sv 2) J = some (.string (bs wb),J) := by rw [tJ.load (Ext.refl _) (k := 2) (by omega),g2]
  have l3 : loadR (addrOf sv 3) J = some (.string (bs (cl.getD 0 [])),J) := by rw [tJ.load (Ext.refl _) (k := 3) (by omega),← g3 0]
  have mem : ∀ k,k < pl.length → (pl.getD k []).length ≤ 60000 := fun k hk => hpm _ (by rw [List.getD_eq_getElem?_getD,List.getElem?_eq_getElem hk]; exact List.getElem_mem _)
  have hla := mem 1 (by omega)
  have hlb := mem 2 (by omega)
  rw [g1] at hla
  rw [g2] at hlb
  (repeat(first|refine yw ?_|((first|apply yd|apply ye);simp (disch:=first|exact zz|fail) only[go_sem,i0,l0,dec_f (show ¬ wd = [114,97,116,105,111] from hne)];with_reducible rfl)))
  refine cond_f rfl ?_
  (repeat(first|refine yw ?_|((first|apply yd|apply ye);simp (disch:=first|exact zz|fail) only[go_sem,tJ.len,i0,l0,dec_t (show wd = [109,97,112] from hB1),dec_t (show (4 : Int) ≤ ((pl.length : Nat) : Int) by omega)];with_reducible rfl)))
  refine cond_t rfl ?_
  have hl6J := hl6 j4
  have hs6J := hs6 j2
  have hfJ := fin0 j2
  have badJ := bad (K := J) 7 xJ
  (repeat(first|refine yw ?_|((first|apply yd|apply ye);simp (disch:=first|exact zz|fail) only[go_sem,i1,l1];with_reducible rfl)))
  refine aops_call ((refNum5_c (l := wa) (d := 4) (by decide) (by omega)).mono fun v1 K1 ⟨⟨n1,en1,fn1⟩,e⟩ => ?_)
  subst e
  subst en1
  (repeat(first|refine yw ?_|((first|apply yd|apply ye);simp (disch:=first|exact zz|fail) only[go_sem,i2,l2];with_reducible rfl)))
  refine aops_call ((refNum5_c (l := wb) (d := 13) (by decide) (by omega)).mono fun v2 K2 ⟨⟨n2,en2,fn2⟩,e⟩ => ?_)
  subst e
  subst en2
  cases hq1 : numP 4 wa with
  | none =>
    rw [numsD_none hq1] at hP
    have hP : parseRulesL l = (zeroR,7) := hP
    (repeat(first|refine yw ?_|((first|apply yd|apply ye);simp (disch:=first|exact zz|fail) only[go_sem,Option.isSome_none];with_reducible rfl)))
    refine cond_t rfl ?_
    (repeat(first|refine yw ?_|((first|apply yd|apply ye);simp (disch:=first|exact zz|fail) only[go_sem,hl6J,hs6J];with_reducible rfl)))
    exact fin_l2 hfJ (badJ hP)
  | some d =>
  obtain rfl := fn1 d hq1
  rw [numsD_some hq1] at hP
  cases hq2 : numP 13 wb with
  | none =>
    rw [numsD_none hq2] at hP
    have hP : parseRulesL l = (zeroR,7) := hP
    (repeat(first|refine yw ?_|((first|apply yd|apply ye);simp (disch:=first|exact zz|fail) only[go_sem,Option.isSome_none,Option.isSome_some];with_reducible rfl)))
    refine cond_t rfl ?_
    (repeat(first|refine yw ?_|((first|apply yd|apply ye);simp (disch:=first|exact zz|fail) only[go_sem,hl6J,hs6J];with_reducible rfl)))
    exact fin_l2 hfJ (badJ hP)
  | some st =>
  obtain rfl := fn2 st hq2
  rw [numsD_some hq2] at hP
  have hP : parseRulesL l = if (parseMapL r2).2 = 0 then chkR (1,n1,0,0,n2,(parseMapL r2).1) else (zeroR,(parseMapL r2).2) := hP
  (repeat(first|refine yw ?_|((first|apply yd|apply ye);simp (disch:=first|exact zz|fail) only[go_sem,Option.isSome_some];with_reducible rfl)))
  refine cond_f rfl ?_
  (repeat(first|refine yw ?_|((first|apply yd|apply ye);simp (disch:=first|exact zz|fail) only[go_sem,i3,l3];with_reducible rfl)))
  refine awp_loop_n [false,false,true,true,true,true,true,false,false,false,false,true,false,true,false,true,true,false,false,false,false,false,false,false,false,false,false,false,false,false,false,false,false,false,false,false,false,false,false,false,false,false,false,false,false,false,false,false,false,false,false,false,false,false,false,false,false,false,false,false,false,false,false,false,false,false,false,false,false,false,false,false,false,false,false,false,false,false,false,false,false,false,false,false,false,false,false,false,false,false,false,false,false,false,false,false,false,false,false,false,false,false,false,false,false,false,false,false,false,false,false,false,false,false,false,false,false,false,false,false,false,false,false,false,false,false,false,false,false] (cl.length - 1) (fun j e K => K = K2 ∧ e = [junk,junk,.pointer (some ⟨H.length,0,none⟩),.int .i64 0,.pointer (some ⟨H.length + 1,0,none⟩),sv,.pointer (some ⟨H.length + 3,0,none⟩),junk,junk,junk,junk,.int .i64 n1,junk,.int .i64 n2,junk,.string (bs (Lib.join (cl.take (j + 1)) [32])),.int .i64 ((j : Int) + 4),junk,junk,junk,junk,junk,junk,junk,junk,junk,junk,junk,junk,junk,junk,junk,junk,junk,junk,junk,junk,junk,junk,junk,junk,junk,junk,junk,junk,junk,junk,junk,junk,junk,junk,junk,junk,junk,junk,junk,junk,junk,junk,junk,junk,junk,junk,junk,junk,junk,junk,junk,junk,junk,junk,junk,junk,junk,junk,junk,junk,junk,junk,junk,junk,junk,junk,junk,junk,junk,junk,junk,junk,junk,junk,junk,junk,junk,junk,junk,junk,junk,junk,junk,junk,junk,junk,junk,junk,junk,junk,junk,junk,junk,junk,junk,junk,junk,junk,junk,junk,junk,junk,junk,junk,junk,junk,junk,junk,junk,junk,junk,junk]) ?_ ?_
  · refine ⟨rfl,?_⟩
    have : Lib.join (cl.take 1) [32] = cl.getD 0 [] := by
      match cl,hcl0 with
      | c :: cs,_ => exact Lib.join_one c [32]
    rw [this]
    simp [forget]
  rintro j e K hj ⟨rfl,rfl⟩
  have hjl := join_take_le cl (j + 1)
  rw [hjoin] at hjl
  (repeat(first|refine yw ?_|((first|apply yd|apply ye);simp (disch:=first|exact zz|fail) only[go_sem,tJ.len];with_reducible rfl)))
  refine cond_p rfl (fun hlt => ?_) (fun hge => ?_)
  · have hj1 : j + 1 < cl.length := by omega
    have l4 : loadR (addrOf sv (j + 4)) K = some (.string (bs (cl.getD (j + 1) [])),K) := by rw [tJ.load (Ext.refl _) (k := j + 4) (by omega),← g3 (j + 1)]
    have i4 : idxR 1 sv (.int .i64 ((j : Int) + 4)) K = some (addrOf sv (j + 4),K) := by
      have := tJ.idx (i := ((j + 4 : Nat) : Int)) (k := .i64) (H' := K) (by omega) (by omega)
      rw [show ((j + 4 : Nat) : Int).toNat = j + 4 from rfl] at this
      rw [show (j : Int) + 4 = ((j + 4 : Nat) : Int) by omega]
      exact this
    have hml := mem (j + 4) (by omega)
    rw [show j + 4 = (j + 1) + 3 by omega,g3] at hml
    have hsn := join_snoc (ll := cl) (k := j + 1) (by omega) hj1
    have e1 : (j : Int) + 4 + 1 = ((j + 1 : Nat) : Int) + 4 := by omega
    generalize hpre : Lib.join (cl.take (j + 1)) [32] = pre at hjl hsn
    generalize hnx : cl.getD (j + 1) [] = nx at l4 hml hsn
    (repeat(first|refine yw ?_|((first|apply yd|apply ye);simp (disch:=first|exact zz|fail) only[go_sem,i4,l4,List.length_append,List.length_cons,List.length_nil,e1];with_reducible rfl)))
    refine ⟨by omega,rfl,?_⟩
    rw [hsn]
    simp [forget,List.append_assoc]
  have hjj : j + 1 = cl.length := by omega
  rw [hjj,List.take_length,hjoin]
  (refine yg ?_)
  refine aops_call ((rParseMap_c (l := r2) hrl).mono fun v3 J2 ⟨ev,eJ⟩ => ?_)
  subst ev
  have x12 : Ext K J2 := by rw [eJ]; exact (Ext.refl _).app _
  have hpr : Pairs J2 (parseMapL r2).1 (retV K (parseMapL r2).1.length) := by rw [eJ]; exact Pairs.ret
  clear eJ
  have hat := hpr.atom
  have hls := (List.getElem?_eq_some_iff.1 j6).1
  have hid1 : idOf (retV K (parseMapL r2).1.length) ≠ H.length + 3 ∧ idOf (retV K (parseMapL r2).1.length) ≠ H.length ∨ retV K (parseMapL r2).1.length = nilS ∧ (parseMapL r2).1.length = 0 := by
    unfold retV
    split
    · rename_i h0; exact .inr ⟨rfl,h0⟩
    · exact .inl ⟨by show K.length ≠ _; omega,by show K.length ≠ _; omega⟩
  obtain ⟨ml,hml⟩ : ∃ ml,ml = (parseMapL r2).1 := ⟨_,rfl⟩
  obtain ⟨me,hme⟩ : ∃ me,me = (parseMapL r2).2 := ⟨_,rfl⟩
  have hmlen := parseMapL_len r2
  rw [← hml] at hpr hat hid1 hmlen ⊢
  rw [← hml,← hme] at hP
  rw [← hme]
  generalize retV K ml.length = s5 at hpr hat hid1
  have j22 := ext_at x12 j2
  have j24 := ext_at x12 j4
  have j26 := ext_at x12 j6
  have xJ2 := xJ.trans x12
  have hl2 := x12.len
  have hn1 : storeR 1 (.pointer (some ⟨J2.length,0,none⟩)) (.agg ⟨[s5]⟩) (J2 ++ [AObj.cells true 0 [.slice none 0 0]]) = some (undef,J2 ++ [AObj.cells true 0 [s5]]) := by
    rw [store_in (i := 0) (w := s5) at_new (by simp) hat rfl]
    simp
  (repeat(first|refine yw ?_|((first|apply yd|apply ye);simp (disch:=first|exact zz|fail) only[go_sem,hn1];with_reducible rfl)))
  have p2 := at_app (N := [AObj.cells true 0 [s5]]) j22
  have p4 := at_app (N := [AObj.cells true 0 [s5]]) j24
  have p6 := at_app (N := [AObj.cells true 0 [s5]]) j26
  have p7 : (J2 ++ [AObj.cells true 0 [s5]])[J2.length]? = some (.cells true 0 [s5]) := at_new
  have xP := xJ2.app [AObj.cells true 0 [s5]]
  have hprP := hpr.ext ((Ext.refl J2).app [AObj.cells true 0 [s5]])
  generalize hKP : (J2 ++ [AObj.cells true 0 [s5]] : AHeap) = KP at p2 p4 p6 p7 xP hprP
  by_cases he0 : me = 0
  rotate_left 1
  · rw [if_neg he0] at hP
    refine cond_t (by show Value.bool (decide (me ≠ 0)) = _; rw [dec_t (show me ≠ 0 from he0)]) ?_
    (repeat(first|refine yw ?_|((first|apply yd|apply ye);simp (disch:=first|exact zz|fail) only[go_sem,hl6 p4,hs6 p2];with_reducible rfl)))
    exact fin_l2 (fin0 p2) (bad _ xP hP)
  rw [if_pos he0] at hP
  refine cond_f (by show Value.bool (decide (me ≠ 0)) = _; rw [dec_f (show ¬ me ≠ 0 from fun h => h he0)]) ?_
  obtain ⟨sa,sn,sc,rfl⟩ : ∃ a n c,s5 = .slice a n c := by rcases hpr.2 with ⟨h,_⟩ | ⟨_,_,_,h,_⟩ <;> exact ⟨_,_,_,h⟩
  have hfl : fillA [.int .i64 0,.int .i64 0,.int .i64 0,.int .i64 0,.int .i64 0,.slice none 0 0] [(0,1,.int .i64 1),(1,1,.int .i64 n1),(4,1,.int .i64 n2),(5,1,.agg ⟨[.slice sa sn sc]⟩)] = some (rulesC 1 n1 0 0 n2 (.slice sa sn sc)) := rfl
  have sb : storeR 6 (.pointer (some ⟨H.length + 3,0,none⟩)) (.agg ⟨rulesC 1 n1 0 0 n2 (.slice sa sn sc)⟩) KP = some (undef,KP.set (H.length + 3) (.cells true 0 (rulesC 1 n1 0 0 n2 (.slice sa sn sc)))) := store_all p6 rfl (by simp [rulesC,hat,isAtom_int]) rfl
  have c6 := get_set_self p6 (d := .cells true 0 (rulesC 1 n1 0 0 n2 (.slice sa sn sc)))
  have c2 : (KP.set (H.length + 3) (.cells true 0 (rulesC 1 n1 0 0 n2 (.slice sa sn sc))))[H.length]? = some (.cells true 0 (rulesC 0 0 0 0 0 nilS)) := by rw [List.getElem?_set_ne (by omega)]; exact p2
  have c4 : (KP.set (H.length + 3) (.cells true 0 (rulesC 1 n1 0 0 n2 (.slice sa sn sc))))[H.length + 1]? = some (.cells true 0 (rulesC 0 0 0 0 0 nilS)) := by rw [List.getElem?_set_ne (by omega)]; exact p4
  have xC := xP.set (show H.length ≤ H.length + 3 by omega) (.cells true 0 (rulesC 1 n1 0 0 n2 (.slice sa sn sc)))
  have setP : ∀ {K' : AHeap} (b : Nat) (c : AObj),b = H.length + 3 ∨ b = H.length → Pairs K' ml (.slice sa sn sc) → Pairs (K'.set b c) ml (.slice sa sn sc) := fun {K'} b c hb hp => by
    rcases hid1 with ⟨h1,h2⟩ | ⟨h1,h2⟩
    · exact Sl.set_ne hp (by rcases hb with rfl | rfl <;> assumption) c
    · have : ml = [] := List.length_eq_zero_iff.1 h2
      rw [this,h1]; exact pairsNil _
  have hpC := setP (H.length + 3) (.cells true 0 (rulesC 1 n1 0 0 n2 (.slice sa sn sc))) (.inl rfl) hprP
  obtain ⟨C,hC⟩ : ∃ C,C = KP.set (H.length + 3) (.cells true 0 (rulesC 1 n1 0 0 n2 (.slice sa sn sc))) := ⟨_,rfl⟩
  rw [← hC] at sb c6 c2 c4 xC hpC
  have l6 : loadNR 6 (.pointer (some ⟨H.length + 3,0,none⟩)) C = some (rulesV 1 n1 0 0 n2 (.slice sa sn sc),C) := loadN_at c6 (by simp [rulesC])
  (repeat(first|refine yw ?_|((first|apply yd|apply ye);simp (disch:=first|exact zz|fail) only[go_sem,n1_at p7,hfl,sb];with_reducible rfl)))
  (repeat(first|refine yw ?_|((first|apply yd|apply ye);simp (disch:=first|exact zz|fail) only[go_sem,l6];with_reducible rfl)))
  (refine aops_call_to (rRulesErr_c (kind := 1) (deg := n1) (num := 0) (den := 0) (step := n2) (l := ml) (v := (.slice sa sn sc)) hpC (by omega)) ?_)
  by_cases he : rulesErrL 1 n1 0 0 n2 ml = 0
  · have hP : parseRulesL l = ((1,n1,0,0,n2,ml),0) := by rw [hP,chkR_ok (r := (1,n1,0,0,n2,ml)) he]
    rw [he]
    have s6 : storeR 6 (.pointer (some ⟨H.length,0,none⟩)) (rulesV 1 n1 0 0 n2 (.slice sa sn sc)) C = some (undef,C.set H.length (.cells true 0 (rulesC 1 n1 0 0 n2 (.slice sa sn sc)))) := hst2 (u := rulesC 1 n1 0 0 n2 (.slice sa sn sc)) c2 rfl (by simp [rulesC,hat,isAtom_int])
    (refine yg ?_)
    refine cond_f rfl ?_
    (repeat(first|refine yw ?_|((first|apply yd|apply ye);simp (disch:=first|exact zz|fail) only[go_sem,l6,s6];with_reducible rfl)))
    refine fin_l2 (u := rulesV 1 n1 0 0 n2 (.slice sa sn sc)) (loadN_at (k := 0) (n := 6) (get_set_self c2) (by simp [rulesC])) ?_
    rw [hP]
    exact ⟨(.slice sa sn sc),rfl,xC.set (Nat.le_refl _) _,setP _ _ (.inr rfl) hpC⟩
  · have hP : parseRulesL l = (zeroR,rulesErrL 1 n1 0 0 n2 ml) := by rw [hP,chkR_bad (r := (1,n1,0,0,n2,ml)) he]; rfl
    (repeat(first|refine yw ?_|((first|apply yd|apply ye);simp (disch:=first|exact zz|fail) only[go_sem,dec_t (show rulesErrL 1 n1 0 0 n2 ml ≠ 0 from he)];with_reducible rfl)))
    refine cond_t rfl ?_
    (repeat(first|refine yw ?_|((first|apply yd|apply ye);simp (disch:=first|exact zz|fail) only[go_sem,hl6 c4,hs6 c2];with_reducible rfl)))
    exact fin_l2 (fin0 c2) (bad _ xC hP)
end
end Go.Lq

namespace Go.Lq
open Go
open Go.Proofs
def rulesT (kind deg num den step : Int) (l : List (Int × Int)) : List UInt8 :=
  if kind = 0 then ratioB ++ [32] ++ pathT [deg,num,den] else if kind = 1 then mapB ++ [32] ++ pathT [deg,step] ++ [32] ++ mapT l else []
def filterT (c : List Int) (d : Int) : List UInt8 := pathT (d :: c)
section
variable {H : AHeap} {kind deg num den step : Int} {l : List (Int × Int)} {v : Value}
set_option maxHeartbeats 4000000 in
theorem formatRules_c (hs : StrH H) (hW : WordsAt H) (hl : Pairs H l v) (hn : l.length ≤ 100000) (hb : InB l) (b1 : i64 deg) (b2 : i64 num) (b3 : i64 den) (b4 : i64 step) :
    ACall Go.Proofs.Tryz.prog 17 [rulesV kind deg num den step v] H fun w H' => w = .string (bs (rulesT kind deg num den step l)) ∧ H' = H := by
  refine ACall.drop (.string _) ?_
  have w3 : InW [deg,num,den] := fun n hn => by simp at hn; rcases hn with rfl | rfl | rfl <;> assumption
  have w2 : InW [deg,step] := fun n hn => by simp at hn; rcases hn with rfl | rfl <;> assumption
  have p3 := pathT_length w3
  have p2 := pathT_length w2
  have pm := mapT_length hb
  (refine a17 ?_; simp only [n17,List.replicate,List.length_cons,List.length_nil,List.cons_append,List.nil_append]; first | refine Go.Lq.q1 ?_ | refine Go.Lq.q2 ?_ | refine Go.Lq.q6 ?_ | refine Go.Lq.q7 ?_ | refine Go.Lq.qh rfl ?_ | skip)
  have g0 : (H ++ [AObj.cells true 0 (rulesC kind deg num den step v)])[H.length]? = some (.cells true 0 (rulesC kind deg num den step v)) := at_new
  have xG : Ext H (H ++ [AObj.cells true 0 (rulesC kind deg num den step v)]) := (Ext.refl H).app _
  (repeat (first | refine yv ?_ | (apply yd; simp (disch:=first|exact zz|fail) only[go_sem,box_rules hl.atom];with_reducible rfl)))
  generalize (H ++ [AObj.cells true 0 (rulesC kind deg num den step v)] : AHeap) = G at g0 xG
  have q0 : loadR (.pointer (some ⟨H.length,0,none⟩)) G = some (.int .i64 kind,G) := by rw [load_at g0]; rfl
  have q1' : loadR (.pointer (some ⟨H.length,1,none⟩)) G = some (.int .i64 deg,G) := by rw [load_at g0]; rfl
  have q2' : loadR (.pointer (some ⟨H.length,2,none⟩)) G = some (.int .i64 num,G) := by rw [load_at g0]; rfl
  have q3' : loadR (.pointer (some ⟨H.length,3,none⟩)) G = some (.int .i64 den,G) := by rw [load_at g0]; rfl
  have q4' : loadR (.pointer (some ⟨H.length,4,none⟩)) G = some (.int .i64 step,G) := by rw [load_at g0]; rfl
  have q5' := load_map g0
  have hWG := hW.ext xG
  have a0 : idxAR 2 1 (.pointer (some ⟨0,0,none⟩)) (.int .i64 0) G = some (.pointer (some ⟨0,0,none⟩),G) := idxA_at (n := 0) (by omega)
  have a1 : idxAR 2 1 (.pointer (some ⟨0,0,none⟩)) (.int .i64 1) G = some (.pointer (some ⟨0,1,none⟩),G) := idxA_at (n := 1) (by omega)
  have c0 : loadR (.pointer (some ⟨0,0,none⟩)) G = some (.string (bs ratioB),G) := by rw [load_at hWG]; rfl
  have c1 : loadR (.pointer (some ⟨0,1,none⟩)) G = some (.string (bs mapB),G) := by rw [load_at hWG]; rfl
  have lr : ratioB.length = 5 := rfl
  have lm : mapB.length = 3 := rfl
  (repeat(first|refine yw ?_|((first|apply yd|apply ye);simp (disch:=first|exact zz|fail) only[go_sem,q0];with_reducible rfl)))
  by_cases hk0 : kind = 0
  · subst hk0
    refine cond_t rfl ?_
    (repeat(first|refine yw ?_|((first|apply yd|apply ye);simp (disch:=first|exact zz|fail) only[go_sem,q0,a0,c0,q1',q2',q3',List.length_append,lr,List.length_cons,List.length_nil];with_reducible rfl)))
    have hsn := hs.ext (xG.app [AObj.cells true 1 [.int .i64 deg,.int .i64 num,.int .i64 den]])
    have hl3 : Ints (G ++ [AObj.cells true 1 [.int .i64 deg,.int .i64 num,.int .i64 den]]) [deg,num,den] (.slice (some ⟨G.length,0,none⟩) 3 3) := Ints.last (l := [deg,num,den]) 3
    (refine adraw_call (N := []) (firstD (joinedW_c hsn hl3 (by simp) w3)) ?_; rw [List.append_nil])
    have p3' : (pathT [deg,num,den]).length ≤ 66 := p3
    (repeat(first|refine yw ?_|((first|apply yd|apply ye);simp (disch:=first|exact zz|fail) only[go_sem,List.length_append,lr,List.length_cons,List.length_nil];with_reducible rfl)))
    refine fin_1 ⟨?_,xG.app _⟩
    rfl
  by_cases hk1 : kind = 1
  · subst hk1
    refine cond_f rfl ?_
    (refine yg ?_)
    refine cond_t rfl ?_
    (repeat(first|refine yw ?_|((first|apply yd|apply ye);simp (disch:=first|exact zz|fail) only[go_sem,q0,a1,c1,q1',q4',List.length_append,lm,List.length_cons,List.length_nil];with_reducible rfl)))
    have hsn := hs.ext (xG.app [AObj.cells true 1 [.int .i64 deg,.int .i64 step]])
    have hl3 : Ints (G ++ [AObj.cells true 1 [.int .i64 deg,.int .i64 step]]) [deg,step] (.slice (some ⟨G.length,0,none⟩) 2 2) := Ints.last (l := [deg,step]) 2
    (refine adraw_call (N := []) (firstD (joinedW_c hsn hl3 (by simp) w2)) ?_; rw [List.append_nil])
    have p2' : (pathT [deg,step]).length ≤ 44 := p2
    have g1 := at_app (N := [AObj.cells true 1 [.int .i64 deg,.int .i64 step]]) g0
    have hl5 := load_map g1
    (repeat(first|refine yw ?_|((first|apply yd|apply ye);simp (disch:=first|exact zz|fail) only[go_sem,hl5,List.length_append,lm,List.length_cons,List.length_nil];with_reducible rfl)))
    (refine adraw_call (N := []) (firstD (formatMap_c hsn (hl.ext (xG.app [AObj.cells true 1 [.int .i64 deg,.int .i64 step]])) hn hb)) ?_; rw [List.append_nil])
    (repeat(first|refine yw ?_|((first|apply yd|apply ye);simp (disch:=first|exact zz|fail) only[go_sem,List.length_append,lm,List.length_cons,List.length_nil];with_reducible rfl)))
    refine fin_1 ⟨?_,xG.app _⟩
    rfl
  refine cond_f (by show Value.bool (decide (kind = 0)) = _; rw [dec_f hk0]) ?_
  (repeat(first|refine yw ?_|((first|apply yd|apply ye);simp (disch:=first|exact zz|fail) only[go_sem,dec_f hk1];with_reducible rfl)))
  refine cond_f rfl ?_
  (refine yg ?_)
  refine fin_1 ⟨?_,xG⟩
  unfold rulesT
  rw [if_neg hk0,if_neg hk1]
  rfl
set_option maxHeartbeats 4000000 in
theorem rFormatRules_c (hl : Pairs H l v) (hn : l.length ≤ 100000) (hb : InB l) (b1 : i64 deg) (b2 : i64 num) (b3 : i64 den) (b4 : i64 step) :
    ACall Go.Proofs.Tryz.prog 25 [rulesV kind deg num den step v] H fun w H' => w = .string (bs (rulesT kind deg num den step l)) ∧ H' = H := by
  refine ACall.drop (.string _) ?_
  have w3 : InW [deg,num,den] := fun n hn => by simp at hn; rcases hn with rfl | rfl | rfl <;> assumption
  have w2 : InW [deg,step] := fun n hn => by simp at hn; rcases hn with rfl | rfl <;> assumption
  have p3 : (pathT [deg,num,den]).length ≤ 66 := pathT_length w3
  have p2 : (pathT [deg,step]).length ≤ 44 := pathT_length w2
  have pm := mapT_length hb
  (refine a25 ?_; simp only [n25,List.replicate,List.length_cons,List.length_nil,List.cons_append,List.nil_append]; first | refine Go.Lq.q1 ?_ | refine Go.Lq.q2 ?_ | refine Go.Lq.q6 ?_ | refine Go.Lq.q7 ?_ | refine Go.Lq.qh rfl ?_ | skip)
  have g0 : (H ++ [AObj.cells true 0 (rulesC kind deg num den step v)])[H.length]? = some (.cells true 0 (rulesC kind deg num den step v)) := at_new
  have xG : Ext H (H ++ [AObj.cells true 0 (rulesC kind deg num den step v)]) := (Ext.refl H).app _
  (repeat (first | refine yv ?_ | (apply yd; simp (disch:=first|exact zz|fail) only[go_sem,box_rules hl.atom];with_reducible rfl)))
  generalize (H ++ [AObj.cells true 0 (rulesC kind deg num den step v)] : AHeap) = G at g0 xG
  have q0 : loadR (.pointer (some ⟨H.length,0,none⟩)) G = some (.int .i64 kind,G) := by rw [load_at g0]; rfl
  have q1' : loadR (.pointer (some ⟨H.length,1,none⟩)) G = some (.int .i64 deg,G) := by rw [load_at g0]; rfl
  have q2' : loadR (.pointer (some ⟨H.length,2,none⟩)) G = some (.int .i64 num,G) := by rw [load_at g0]; rfl
  have q3' : loadR (.pointer (some ⟨H.length,3,none⟩)) G = some (.int .i64 den,G) := by rw [load_at g0]; rfl
  have q4' : loadR (.pointer (some ⟨H.length,4,none⟩)) G = some (.int .i64 step,G) := by rw [load_at g0]; rfl
  (repeat(first|refine yw ?_|((first|apply yd|apply ye);simp (disch:=first|exact zz|fail) only[go_sem,q0];with_reducible rfl)))
  by_cases hk0 : kind = 0
  · subst hk0
    refine cond_t rfl ?_
    (repeat(first|refine yw ?_|((first|apply yd|apply ye);simp (disch:=first|exact zz|fail) only[go_sem,q1',q2',q3'];with_reducible rfl)))
    have hl3 : Ints (G ++ [AObj.cells true 1 [.int .i64 deg,.int .i64 num,.int .i64 den]]) [deg,num,den] (.slice (some ⟨G.length,0,none⟩) 3 3) := Ints.last (l := [deg,num,den]) 3
    (refine aops_call_to (rWords_c hl3 (by simp) w3) ?_)
    (repeat(first|refine yw ?_|((first|apply yd|apply ye);simp (disch:=first|exact zz|fail) only[go_sem,List.length_append,List.length_cons,List.length_nil];with_reducible rfl)))
    refine fin_1 ⟨?_,xG.app _⟩
    rfl
  by_cases hk1 : kind = 1
  · subst hk1
    refine cond_f rfl ?_
    (refine yg ?_)
    refine cond_t rfl ?_
    (repeat(first|refine yw ?_|((first|apply yd|apply ye);simp (disch:=first|exact zz|fail) only[go_sem,q1',q4'];with_reducible rfl)))
    have hl3 : Ints (G ++ [AObj.cells true 1 [.int .i64 deg,.int .i64 step]]) [deg,step] (.slice (some ⟨G.length,0,none⟩) 2 2) := Ints.last (l := [deg,step]) 2
    (refine adraw_call (N := []) (firstD (rWords_c hl3 (by simp) w2)) ?_; rw [List.append_nil])
    have g1 := at_app (N := [AObj.cells true 1 [.int .i64 deg,.int .i64 step]]) g0
    have hl5 := load_map g1
    (repeat(first|refine yw ?_|((first|apply yd|apply ye);simp (disch:=first|exact zz|fail) only[go_sem,hl5,List.length_append,List.length_cons,List.length_nil];with_reducible rfl)))
    (refine adraw_call (N := []) (firstD (rFormatMap_c (hl.ext (xG.app [AObj.cells true 1 [.int .i64 deg,.int .i64 step]])) hn hb)) ?_; rw [List.append_nil])
    (repeat(first|refine yw ?_|((first|apply yd|apply ye);simp (disch:=first|exact zz|fail) only[go_sem,List.length_append,List.length_cons,List.length_nil];with_reducible rfl)))
    refine fin_1 ⟨?_,xG.app _⟩
    rfl
  refine cond_f (by show Value.bool (decide (kind = 0)) = _; rw [dec_f hk0]) ?_
  (repeat(first|refine yw ?_|((first|apply yd|apply ye);simp (disch:=first|exact zz|fail) only[go_sem,dec_f hk1];with_reducible rfl)))
  refine cond_f rfl ?_
  (refine yg ?_)
  refine fin_1 ⟨?_,xG⟩
  unfold rulesT
  rw [if_neg hk0,if_neg hk1]
  rfl
end
theorem append_all {H0 H : AHeap} {l c : List Int} {v w : Value} (h : OwnI H0 H l v) (h0 : 0 < l.length) (hw : Ints H c w) (hx : Ext H0 H) (hb : l.length ≤ 1000000) (hc : c.length ≤ 1000000) :
    ∃ v' H',appendA 1 8 H v w = some (v',H') ∧ OwnI H0 H' (l ++ c) v' ∧ Ext H0 H' := by
  by_cases hc0 : c.length = 0
  · obtain rfl := List.length_eq_zero_iff.1 hc0
    rw [List.append_nil]
    refine ⟨v,H,?_,h,hx⟩
    rcases h.2 with ⟨_,h2⟩ | ⟨id,rfl,_,hn,_⟩
    · omega
    · rcases hw.2 with ⟨rfl,_⟩ | ⟨jd,joff,cc,rfl,_⟩ <;> rfl
  · have := Own.append (bytes := 8) h hw (by omega) (isAtom_ints c) (roomOk_of (by omega) (by omega))
    refine ⟨_,_,this,?_,Own.ext h hx⟩
    have := Own.appended h (m := c.length) (cs := c.map (.int .i64)) (by simp) (by omega) hx.len
    unfold OwnI
    simpa using this
section
variable {H : AHeap} {c : List Int} {d : Int} {v : Value}
theorem formatFilter_c (hs : StrH H) (hc : Ints H c v) (hn : c.length ≤ 90000) (hb : InW c) (bd : i64 d) :
    ACall Go.Proofs.Tryz.prog 19 [.agg ⟨[v,.int .i64 d]⟩] H fun w H' => w = .string (bs (filterT c d)) ∧ H' = H := by
  refine ACall.drop (.string _) ?_
  have hw : InW (d :: c) := fun n hn => by rcases List.mem_cons.1 hn with rfl | h; exact bd; exact hb n h
  (refine a19 ?_; simp only [n19,List.replicate,List.length_cons,List.length_nil,List.cons_append,List.nil_append]; first | refine Go.Lq.q1 ?_ | refine Go.Lq.q2 ?_ | refine Go.Lq.q6 ?_ | refine Go.Lq.q7 ?_ | refine Go.Lq.qh rfl ?_ | skip)
  have g0 : (H ++ [AObj.cells true 0 [v,.int .i64 d]])[H.length]? = some (.cells true 0 [v,.int .i64 d]) := at_new
  have xG : Ext H (H ++ [AObj.cells true 0 [v,.int .i64 d]]) := (Ext.refl H).app _
  (repeat (first | refine yv ?_ | (apply yd; simp (disch:=first|exact zz|fail) only[go_sem,hc.box2];with_reducible rfl)))
  have hcG := hc.ext xG
  generalize (H ++ [AObj.cells true 0 [v,.int .i64 d]] : AHeap) = G at g0 xG hcG
  have q0 : loadR (.pointer (some ⟨H.length,0,none⟩)) (G ++ [AObj.cells true 1 [.int .i64 d]]) = some (v,G ++ [AObj.cells true 1 [.int .i64 d]]) := by rw [load_at (at_app g0)]; rfl
  have q1' : loadR (.pointer (some ⟨H.length,1,none⟩)) G = some (.int .i64 d,G) := by rw [load_at g0]; rfl
  have ho : OwnI G (G ++ [AObj.cells true 1 [.int .i64 d]]) [d] (.slice (some ⟨G.length,0,none⟩) 1 1) := OwnI.last (l := [d]) (Nat.le_refl _) (by simp)
  obtain ⟨v',K,hap,hoK,xK⟩ := append_all ho (by simp) (hcG.ext ((Ext.refl G).app _)) ((Ext.refl G).app _) (by simp) (by omega)
  (repeat(first|refine yw ?_|((first|apply yd|apply ye);simp (disch:=first|exact zz|fail) only[go_sem,q0,q1',hap];with_reducible rfl)))
  (refine aops_call_to (joinedW_c (hs.ext (xG.trans xK)) hoK.ints (by simp; omega) hw) ?_)
  (refine yg ?_)
  exact fin_1 ⟨rfl,xG.trans xK⟩
theorem rFormatFilter_c (hc : Ints H c v) (hn : c.length ≤ 90000) (hb : InW c) (bd : i64 d) :
    ACall Go.Proofs.Tryz.prog 26 [.agg ⟨[v,.int .i64 d]⟩] H fun w H' => w = .string (bs (filterT c d)) ∧ H' = H := by
  refine ACall.drop (.string _) ?_
  have hw : InW (d :: c) := fun n hn => by rcases List.mem_cons.1 hn with rfl | h; exact bd; exact hb n h
  (refine a26 ?_; simp only [n26,List.replicate,List.length_cons,List.length_nil,List.cons_append,List.nil_append]; first | refine Go.Lq.q1 ?_ | refine Go.Lq.q2 ?_ | refine Go.Lq.q6 ?_ | refine Go.Lq.q7 ?_ | refine Go.Lq.qh rfl ?_ | skip)
  have g0 : (H ++ [AObj.cells true 0 [v,.int .i64 d]])[H.length]? = some (.cells true 0 [v,.int .i64 d]) := at_new
  have xG : Ext H (H ++ [AObj.cells true 0 [v,.int .i64 d]]) := (Ext.refl H).app _
  (repeat (first | refine yv ?_ | (apply yd; simp (disch:=first|exact zz|fail) only[go_sem,hc.box2];with_reducible rfl)))
  have hcG := hc.ext xG
  generalize (H ++ [AObj.cells true 0 [v,.int .i64 d]] : AHeap) = G at g0 xG hcG
  have q0 : loadR (.pointer (some ⟨H.length,0,none⟩)) (G ++ [AObj.cells true 1 [.int .i64 d]]) = some (v,G ++ [AObj.cells true 1 [.int .i64 d]]) := by rw [load_at (at_app g0)]; rfl
  have q1' : loadR (.pointer (some ⟨H.length,1,none⟩)) G = some (.int .i64 d,G) := by rw [load_at g0]; rfl
  have ho : OwnI G (G ++ [AObj.cells true 1 [.int .i64 d]]) [d] (.slice (some ⟨G.length,0,none⟩) 1 1) := OwnI.last (l := [d]) (Nat.le_refl _) (by simp)
  obtain ⟨v',K,hap,hoK,xK⟩ := append_all ho (by simp) (hcG.ext ((Ext.refl G).app _)) ((Ext.refl G).app _) (by simp) (by omega)
  (repeat(first|refine yw ?_|((first|apply yd|apply ye);simp (disch:=first|exact zz|fail) only[go_sem,q0,q1',hap];with_reducible rfl)))
  (refine aops_call_to (rWords_c hoK.ints (by simp; omega) hw) ?_)
  (refine yg ?_)
  exact fin_1 ⟨rfl,xG.trans xK⟩
theorem sameFilter_c {c1 c2 : List Int} {d1 d2 : Int} {v1 v2 : Value} (h1 : Ints H c1 v1) (h2 : Ints H c2 v2) (l1 : c1.length ≤ 1000000) (l2 : c2.length ≤ 1000000) :
    ACall Go.Proofs.Tryz.prog 28 [.agg ⟨[v1,.int .i64 d1]⟩,.agg ⟨[v2,.int .i64 d2]⟩] H fun w H' => w = .bool (decide (c1 = c2 ∧ d1 = d2)) ∧ H' = H := by
  refine ACall.drop (.bool _) ?_
  (refine a28 ?_; simp only [n28,List.replicate,List.length_cons,List.length_nil,List.cons_append,List.nil_append]; first | refine Go.Lq.q1 ?_ | refine Go.Lq.q2 ?_ | refine Go.Lq.q6 ?_ | refine Go.Lq.q7 ?_ | refine Go.Lq.qh rfl ?_ | skip)
  obtain ⟨G,hG⟩ : ∃ G,G = H ++ [AObj.cells true 0 [v1,.int .i64 d1]] ++ [AObj.cells true 0 [v2,.int .i64 d2]] := ⟨_,rfl⟩
  have g0 : G[H.length]? = some (.cells true 0 [v1,.int .i64 d1]) := by rw [hG]; exact at_app at_new
  have g1 : G[H.length + 1]? = some (.cells true 0 [v2,.int .i64 d2]) := by rw [hG]; simp
  have xG : Ext H G := by rw [hG]; exact ((Ext.refl H).app _).app _
  have h2' := h2.ext ((Ext.refl H).app [AObj.cells true 0 [v1,.int .i64 d1]])
  (repeat (first | refine yv ?_ | (apply yd; simp (disch:=first|exact zz|fail) only[go_sem,h1.box2,h2'.box2];with_reducible rfl)))
  (simp only [List.length_append,List.length_cons,List.length_nil,Nat.zero_add,Nat.add_assoc,Nat.reduceAdd])
  rw [← hG]
  clear hG
  have a0 : loadR (.pointer (some ⟨H.length,0,none⟩)) G = some (v1,G) := by rw [load_at g0]; rfl
  have a1 : loadR (.pointer (some ⟨H.length,1,none⟩)) G = some (.int .i64 d1,G) := by rw [load_at g0]; rfl
  have b0 : loadR (.pointer (some ⟨H.length + 1,0,none⟩)) G = some (v2,G) := by rw [load_at g1]; rfl
  have b1 : loadR (.pointer (some ⟨H.length + 1,1,none⟩)) G = some (.int .i64 d2,G) := by rw [load_at g1]; rfl
  by_cases hd : d1 = d2
  · (repeat(first|refine yw ?_|((first|apply yd|apply ye);simp (disch:=first|exact zz|fail) only[go_sem,a0,a1,b0,b1,dec_t hd];with_reducible rfl)))
    (refine aops_call_to (bints_c (h1.ext xG) (h2.ext xG) (by omega) (by omega)) ?_)
    (refine yg ?_)
    refine fin_1 ⟨?_,xG⟩
    show Value.bool _ = Value.bool _
    congr 1
    exact decide_eq_decide.2 ⟨fun h => ⟨h,hd⟩,fun h => h.1⟩
  · (repeat(first|refine yw ?_|((first|apply yd|apply ye);simp (disch:=first|exact zz|fail) only[go_sem,a0,a1,b0,b1,dec_f hd];with_reducible rfl)))
    refine fin_1 ⟨?_,xG⟩
    show Value.bool _ = Value.bool _
    congr 1
    exact (decide_eq_false fun h : c1 = c2 ∧ d1 = d2 => hd h.2).symm
end
end Go.Lq

namespace Go.Lq
open Go
def Sized (m : Int) (l : List Int) : Prop := ∀ i : Nat,-m ≤ l.getD i 0 ∧ l.getD i 0 ≤ m
theorem sized_of {m : Int} (hm : 0 ≤ m) {l : List Int} (h : l.all (sizedB m) = true) : Sized m l := fun i => by
  by_cases hi : i < l.length
  · simpa [sizedB] using all_getD (d := 0) h hi
  · rw [List.getD_eq_getElem?_getD,List.getElem?_eq_none (by omega)]
    simp; omega
theorem sized_pos {l : List Int} (h : positionsErrL l = 0) : Sized 1000000 l ∧ l.length ≤ 200 := by
  unfold positionsErrL at h
  split at h
  · cases h
  · split at h
    · rename_i h1 h2; exact ⟨sized_of (by omega) h2,by omega⟩
    · cases h
section
variable {H : AHeap}
end
end Go.Lq

namespace Go.Lq
open Go
open Go.Proofs
def parsePathL (l : List UInt8) : List Int × Int :=
  if (60000 : Int) < (l.length : Int) then ([],8) else if l = [] then ([],0) else
  match numsS 7 (cutL 32 l) with
  | none => ([],7)
  | some ns => if positionsErrL ns = 0 then (ns,0) else ([],positionsErrL ns)
theorem parse_path {l : List Int} (h : positionsErrL l = 0) : parsePathL (pathT l) = (l,0) := by
  obtain ⟨hs,hn⟩ := sized_pos h
  have hm : ∀ n ∈ l,-1000000 ≤ n ∧ n ≤ 1000000 := fun n hn => by
    obtain ⟨i,hi,e⟩ := List.getElem_of_mem hn
    have := hs i
    rw [List.getD_eq_getElem?_getD,List.getElem?_eq_getElem hi,e] at this
    exact this
  have hw : InW l := fun n hn => by have := hm n hn; exact ⟨by omega,by omega⟩
  have hlen := pathT_length hw
  unfold parsePathL
  rw [if_neg (by omega)]
  cases l with
  | nil => rw [if_pos (by rfl)]
  | cons a r =>
    have hne : pathT (a :: r) ≠ [] := fun e => by
      have h1 := cut_path (a :: r) (by simp)
      rw [e] at h1
      have h2 : cutL 32 [] = [[]] := rfl
      rw [h2] at h1
      have h3 : Lib.itoa a = [] := by simpa [wordsT] using (List.cons.inj h1).1.symm
      have h4 := numS_itoa (d := 7) (k := 7) (by decide) (by decide) (n := a) (by have := hm a (by simp); have : ((10 ^ 7 : Nat) : Int) = 10000000 := by decide
                                                                                  omega) (by have := hm a (by simp); have : ((10 ^ 7 : Nat) : Int) = 10000000 := by decide
                                                                                             omega) (hw a (by simp))
      rw [h3] at h4
      cases h4
    rw [if_neg hne,cut_path _ (by simp),show (7 : Int) = ((7 : Nat) : Int) from rfl,nums_back (k := 7) (by decide) (by decide) _ fun n hn => by
      have h7 : ((10 ^ 7 : Nat) : Int) = 10000000 := by decide
      have := hm n hn
      exact ⟨by omega,by omega,hw n hn⟩]
    show (if positionsErrL (a :: r) = 0 then (a :: r,0) else _) = _
    rw [if_pos h]
theorem OwnI.lt {H0 H1 H : AHeap} {l : List Int} {v : Value} (h : OwnI H0 H l v) (hx : H1.length ≤ H0.length) : OwnI H1 H l v := Own.weaken h hx
section
variable {H : AHeap}
theorem cutB_c {l : List UInt8} (hl : l.length ≤ 1000000) : ACall Go.Proofs.Tryz.prog 44 [.string (bs l),.int .u8 32] H fun v H' =>
    v = .slice (some ⟨H.length,0,none⟩) (cutL 32 l).length (cutL 32 l).length ∧ H' = H ++ [.cells true 1 (strs (cutL 32 l))] :=
  (cutR_c (c := 32) hl).mono fun v H' ⟨h1,h2⟩ => by
    obtain ⟨x,xs,e⟩ := cutL_ne 32 l
    have : (cutL 32 l).length ≠ 0 := by rw [e]; simp
    rw [h1,h2]
    unfold retV retN
    rw [if_neg this,if_neg this]
    exact ⟨rfl,rfl⟩
end
end Go.Lq

namespace Go.Lq
open Go
open Go.Proofs
theorem fin_LL {c : RCode} {n a b : Nat} {R : Value → AHeap → Prop} {e : Env} {H : AHeap} {u w : Value} (h1 : loadR (e.getD a undef) H = some (u,H)) (h2 : loadR (e.getD b undef) H = some (w,H)) (h : R (.tuple #[u,w]) H) :
    Fin ⟨c,n,[.load a,.load b]⟩ R .ret e H := by
  refine ⟨.inr rfl,_,?_,h⟩
  unfold loadR at h1 h2
  split at h1
  · rename_i id off hp
    simp only [Option.map_eq_some_iff,Prod.mk.injEq,and_true] at h1
    obtain ⟨us,h3,rfl⟩ := h1
    split at h2
    · rename_i id' off' hp'
      simp only [Option.map_eq_some_iff,Prod.mk.injEq,and_true] at h2
      obtain ⟨us',h4,rfl⟩ := h2
      simp only [resultA,List.mapM_cons,resA,hp,h3,hp',h4,Option.map_some,List.mapM_nil]
      rfl
    · cases h2
  · cases h1
theorem ld_1 {G : AHeap} {id : Nat} {a : Value} (h : G[id]? = some (.cells true 0 [a])) : loadR (.pointer (some ⟨id,0,none⟩)) G = some (a,G) := by rw [load_at h]; rfl
theorem st_i1 {J : AHeap} {b : Nat} {x : Value} {n : Int} (h : J[b]? = some (.cells true 0 [x])) : storeR 1 (.pointer (some ⟨b,0,none⟩)) (.int .i64 n) J = some (undef,J.set b (.cells true 0 [.int .i64 n])) := by
  have ec : (Value.int .i64 n).cells.toList = [.int .i64 n] := rfl
  have ec2 : (Value.int .i64 n).cells.size = 1 := rfl
  have ec4 : ([Value.int .i64 n].all isAtom) = true := rfl
  have ec5 : setCells [x] 0 [.int .i64 n] = [.int .i64 n] := rfl
  simp only [storeR,ec,ec2,if_true,storeAt,h,List.length_cons,List.length_nil,Nat.zero_add,Nat.le_refl,ec4,and_self,Option.map_some,ec5]
theorem st_l1 {J : AHeap} {b : Nat} {x : Value} {a : Option Addr} {n c : Nat} (h : J[b]? = some (.cells true 0 [x])) : storeR 1 (.pointer (some ⟨b,0,none⟩)) (.slice a n c) J = some (undef,J.set b (.cells true 0 [.slice a n c])) := by
  have ec : (Value.slice a n c).cells.toList = [.slice a n c] := rfl
  have ec2 : (Value.slice a n c).cells.size = 1 := rfl
  have ec4 : ([Value.slice a n c].all isAtom) = true := rfl
  have ec5 : setCells [x] 0 [.slice a n c] = [.slice a n c] := rfl
  simp only [storeR,ec,ec2,if_true,storeAt,h,List.length_cons,List.length_nil,Nat.zero_add,Nat.le_refl,ec4,and_self,Option.map_some,ec5]
theorem OwnI.set_lt {H0 H : AHeap} {l : List Int} {v : Value} (h : OwnI H0 H l v) {j : Nat} (hj : j < H0.length) (c : AObj) : OwnI H0 (H.set j c) l v := Own.set_lt h hj c
def KeepB (a b : Nat) (G H : AHeap) : Prop := G.length ≤ H.length ∧ ∀ i,i < G.length → i ≠ a → i ≠ b → H[i]? = G[i]?
theorem KeepB.get {a b : Nat} {G H : AHeap} (h : KeepB a b G H) {i : Nat} {c : AObj} (hi : G[i]? = some c) (ha : i ≠ a) (hb : i ≠ b) : H[i]? = some c := by
  rw [h.2 i (List.getElem?_eq_some_iff.1 hi).1 ha hb]; exact hi
theorem KeepB.set {a b j : Nat} {G H : AHeap} (h : KeepB a b G H) (hj : j = a ∨ j = b ∨ G.length ≤ j) (c : AObj) : KeepB a b G (H.set j c) :=
  ⟨by simpa using h.1,fun i hi h1 h2 => by rw [List.getElem?_set_ne (by omega)]; exact h.2 i hi h1 h2⟩
theorem KeepB.ext {a b : Nat} {H0 G H : AHeap} (h : KeepB a b G H) (hx : Ext H0 G) (ha : H0.length ≤ a) (hb : H0.length ≤ b) : Ext H0 H :=
  ext_of_get (by have := hx.len; have := h.1; omega) fun i hi => by rw [h.2 i (by have := hx.len; omega) (by omega) (by omega)]; exact hx.get hi
theorem KeepB.push {a b : Nat} {G H : AHeap} (h : KeepB a b G H) {B : AHeap} {ns : List Int} {v : Value} (ho : OwnI B H ns v) (hB : G.length ≤ B.length) (x : Int) : KeepB a b G (pushH H v ns x) := by
  unfold pushH appH
  rcases ho.2 with ⟨rfl,_⟩ | ⟨id,rfl,h1,_,_⟩
  · exact ⟨by have := h.1; simp; omega,fun i hi e1 e2 => by
      have := h.1
      rw [List.getElem?_append_left (by simp; omega),List.getElem?_append_left (by omega)]
      exact h.2 i hi e1 e2⟩
  · exact ⟨by have := h.1; simp; omega,fun i hi e1 e2 => by
      have := h.1
      rw [List.getElem?_append_left (by simp; omega),List.getElem?_set_ne (by show id ≠ i; omega),List.getElem?_append_left (by omega)]
      exact h.2 i hi e1 e2⟩
theorem pushI_get {H : AHeap} {B : AHeap} {ns : List Int} {v : Value} (ho : OwnI B H ns v) {i : Nat} (hi : i < B.length) (hl : i < H.length) (x : Int) : (pushH H v ns x)[i]? = H[i]? := by
  unfold pushH appH
  rcases ho.2 with ⟨rfl,_⟩ | ⟨id,rfl,h1,_,_⟩
  · rw [List.getElem?_append_left (by simp; omega),List.getElem?_append_left hl]
  · rw [List.getElem?_append_left (by simp; omega),List.getElem?_set_ne (by show id ≠ i; omega),List.getElem?_append_left hl]
theorem OwnI.pushed2 {H0 H : AHeap} {l : List Int} {v : Value} (h : OwnI H0 H l v) (hx : H0.length ≤ H.length) (x : Int) : OwnI H0 (pushH H v l x) (l ++ [x]) (pushV H l.length) := by
  have := Own.appended (h.app [.cells true 1 [.int .i64 x]]) (m := 1) (cs := [.int .i64 x]) rfl (by omega) (by simp; omega)
  unfold OwnI
  simpa [pushV,pushH] using this
def LeftP (l : List UInt8) (i4 k : Nat) (G : AHeap) (rest : List (List Value)) (H : AHeap) : Prop :=
  ∃ (ws : List (List UInt8)) (ns : List Int) (v : Value),rest = ws.map (fun w => [Value.string (bs w)]) ∧ numsS 7 (cutL 32 l) = (numsS 7 ws).map (ns ++ ·) ∧ (∀ w ∈ ws,w.length ≤ 100000) ∧ ns.length + ws.length ≤ 100001 ∧
    KeepB i4 k G H ∧ H[i4]? = some (.cells true 0 [v]) ∧ OwnI (G ++ [.dead]) H ns v
def StopP (l : List UInt8) (H0 : AHeap) (x : AExit) (H : AHeap) : Prop :=
  x = .ret ∧ numsS 7 (cutL 32 l) = none ∧ Ext H0 H ∧ H[H0.length]? = some (.cells true 0 [.slice none 0 0]) ∧ H[H0.length + 1]? = some (.cells true 0 [.int .i64 7])
def junkP : Env := []
theorem numS_no {w : List UInt8} (h : ∀ n,Lib.atoiAll w ≠ .ok n) : numS 7 w = none := by
  unfold numS
  split
  · rename_i n hn; exact absurd hn (h n)
  · rfl
theorem numS_bad {w : List UInt8} {n : Int} (h : Lib.atoiAll w = .ok n) (hb : ¬ (Lib.itoa n = w ∧ ((trimM w).length : Int) ≤ 7)) : numS 7 w = none := by
  unfold numS
  rw [h]
  show (if _ then _ else _) = _
  rw [if_neg hb]
theorem numS_ok {w : List UInt8} {n : Int} (h : Lib.atoiAll w = .ok n) (hb : Lib.itoa n = w ∧ ((trimM w).length : Int) ≤ 7) : numS 7 w = some n := by
  unfold numS
  rw [h]
  show (if _ then _ else _) = _
  rw [if_pos hb]
theorem trimM_length (w : List UInt8) : (trimM w).length ≤ w.length := by
  match w with
  | [] => exact Nat.le_refl _
  | b :: r =>
    by_cases hb : b = 45
    · rw [hb,trimM_minus]; simp
    · rw [trimM_plain hb]; exact Nat.le_refl _
section
variable {H : AHeap}
end
end Go.Lq

namespace Go.Lq
open Go
open Go.Proofs
section
variable {H : AHeap}
theorem sameRules_c {kind deg num den step : Int} {l : List (Int × Int)} {v1 v2 : Value} (h1 : Pairs H l v1) (h2 : Pairs H l v2) (hl : l.length ≤ 1000000) :
    ACall Go.Proofs.Tryz.prog 27 [rulesV kind deg num den step v1,rulesV kind deg num den step v2] H fun w H' => w = .bool true ∧ H' = H := by
  refine ACall.drop (.bool _) ?_
  (refine a27 ?_; simp only [n27,List.replicate,List.length_cons,List.length_nil,List.cons_append,List.nil_append]; first | refine Go.Lq.q1 ?_ | refine Go.Lq.q2 ?_ | refine Go.Lq.q6 ?_ | refine Go.Lq.q7 ?_ | refine Go.Lq.qh rfl ?_ | skip)
  obtain ⟨G,hG⟩ : ∃ G,G = H ++ [AObj.cells true 0 (rulesC kind deg num den step v1)] ++ [AObj.cells true 0 (rulesC kind deg num den step v2)] := ⟨_,rfl⟩
  have g0 : G[H.length]? = some (.cells true 0 (rulesC kind deg num den step v1)) := by rw [hG]; exact at_app at_new
  have g1 : G[H.length + 1]? = some (.cells true 0 (rulesC kind deg num den step v2)) := by rw [hG]; simp
  have xG : Ext H G := by rw [hG]; exact ((Ext.refl H).app _).app _
  (repeat (first | refine yv ?_ | (apply yd; simp (disch:=first|exact zz|fail) only[go_sem,box_rules h1.atom,box_rules h2.atom];with_reducible rfl)))
  (simp only [List.length_append,List.length_cons,List.length_nil,Nat.zero_add,Nat.add_assoc,Nat.reduceAdd])
  rw [← hG]
  clear hG
  have a : ∀ k n,(rulesC kind deg num den step v1)[k]? = some (.int .i64 n) → loadR (.pointer (some ⟨H.length,k,none⟩)) G = some (.int .i64 n,G) := fun k n hk => by
    unfold loadR cellAt; simp only [g0,hk,Option.map_some]
  have b : ∀ k n,(rulesC kind deg num den step v2)[k]? = some (.int .i64 n) → loadR (.pointer (some ⟨H.length + 1,k,none⟩)) G = some (.int .i64 n,G) := fun k n hk => by
    unfold loadR cellAt; simp only [g1,hk,Option.map_some]
  (repeat(first|refine yw ?_|((first|apply yd|apply ye);simp (disch:=first|exact zz|fail) only[go_sem,a 0 kind rfl,a 1 deg rfl,a 2 num rfl,a 3 den rfl,a 4 step rfl,b 0 kind rfl,b 1 deg rfl,b 2 num rfl,b 3 den rfl,b 4 step rfl,load_map g0,load_map g1];with_reducible rfl)))
  (refine aops_call_to (sameMap_c (h1.ext xG) (h2.ext xG) (by omega)) ?_)
  (refine yg ?_)
  exact fin_1 ⟨by simp,xG⟩
end
def parseFilterL (l : List UInt8) : (List Int × Int) × Int :=
  match numsS 4 (cutL 32 l) with
  | some (d :: c) => if 0 ≤ d then (if filterErrL c d = 0 then ((c,d),0) else (([],0),filterErrL c d)) else (([],0),7)
  | _ => (([],0),7)
def FilterRes (H : AHeap) (p : (List Int × Int) × Int) (v : Value) (H1 : AHeap) : Prop :=
  ∃ s,v = .tuple #[.agg ⟨[s,.int .i64 p.1.2]⟩,.int .i64 p.2] ∧ Ext H H1 ∧ Ints H1 p.1.1 s
theorem intsNil (H : AHeap) : Ints H [] nilS := (OwnI.nil H H).ints
theorem numsS_len {d : Int} : ∀ {ws : List (List UInt8)} {ns : List Int},numsS d ws = some ns → ns.length = ws.length
  | [],ns,h => by cases h; rfl
  | w :: ws,ns,h => by
    cases hn : numS d w with
    | none => rw [numsS_none hn] at h; cases h
    | some p =>
      rw [numsS_cons hn] at h
      obtain ⟨ms,h1,rfl⟩ := Option.map_eq_some_iff.1 h
      simp [numsS_len h1]
theorem numS_sign {d n : Int} {w : List UInt8} (h : numS d w = some n) : 0 < w.length ∧ (at8 w 0 = 45 ↔ n < 0) := by
  obtain ⟨_,_,h2,_⟩ := numS_iff.1 h
  by_cases hn : 0 ≤ n
  · obtain ⟨u,rfl⟩ : ∃ u : Nat,n = u := ⟨n.toNat,by omega⟩
    obtain ⟨h4,_,b,r,h6,_⟩ := dec_all u
    rw [itoa_nat,h6] at h2
    have hb := h4 b (by rw [h6]; simp)
    rw [← h2,at8_cons]
    exact ⟨by simp,⟨fun h => by omega,fun h => by omega⟩⟩
  · obtain ⟨u,rfl⟩ : ∃ u : Nat,n = -(u : Int) := ⟨n.natAbs,by omega⟩
    rw [itoa_neg (by omega)] at h2
    rw [← h2,at8_cons]
    exact ⟨by simp,⟨fun _ => by omega,fun _ => rfl⟩⟩
def FSt (G H : AHeap) (b : Nat) (ns : List Int) : Prop :=
  KeepB b b G H ∧ ((ns = [] ∧ H[b]? = some (.cells true 0 [nilS,.int .i64 0])) ∨ ∃ d c v,ns = d :: c ∧ 0 ≤ d ∧ H[b]? = some (.cells true 0 [v,.int .i64 d]) ∧ OwnI G H c v)
section
variable {H : AHeap}
set_option maxHeartbeats 8000000 in
theorem parseFilter_c (hs : StrH H) {l : List UInt8} (hl : l.length ≤ 60000) : ACall Go.Proofs.Tryz.prog 22 [.string (bs l)] H (FilterRes H (parseFilterL l)) := by
  (refine a22 ?_; simp only [n22,List.replicate,List.length_cons,List.length_nil,List.cons_append,List.nil_append]; first | refine Go.Lq.q1 ?_ | refine Go.Lq.q2 ?_ | refine Go.Lq.q6 ?_ | refine Go.Lq.q7 ?_ | refine Go.Lq.qh rfl ?_ | skip)
  have hs2 := hs.ext (((Ext.refl H).app [AObj.cells true 0 [nilS,.int .i64 0]]).app [AObj.cells true 0 [nilS,.int .i64 0]])
  (refine yg ?_)
  (refine aops_call_to (splitB_c hs2 (l := l) (by omega)) ?_)
  obtain ⟨pl,hpl⟩ : ∃ pl,pl = cutL 32 l := ⟨_,rfl⟩
  rw [← hpl]
  have hpm : ∀ x ∈ pl,x.length ≤ 60000 := fun x hx => by have := cutL_piece 32 l x (by rw [← hpl]; exact hx); omega
  have hpn : pl.length ≤ 60001 := by have := cutL_length 32 l; rw [← hpl] at this; omega
  have hp0 : 0 < pl.length := by obtain ⟨x,xs,e⟩ := cutL_ne 32 l; rw [hpl,e]; simp
  have hP : parseFilterL l = match numsS 4 pl with
      | some (d :: c) => if 0 ≤ d then (if filterErrL c d = 0 then ((c,d),0) else (([],0),filterErrL c d)) else (([],0),7)
      | _ => (([],0),7) := by rw [hpl]; rfl
  (simp only [List.length_append,List.length_cons,List.length_nil,Nat.zero_add,Nat.add_assoc,Nat.reduceAdd])
  obtain ⟨G,hG⟩ : ∃ G,G = H ++ [AObj.cells true 0 [.slice none 0 0,.int .i64 0]] ++ [AObj.cells true 0 [.slice none 0 0,.int .i64 0]] ++ [AObj.cells true 1 (strs pl)] := ⟨_,rfl⟩
  have k2 : G[H.length]? = some (.cells true 0 [nilS,.int .i64 0]) := by rw [hG]; simp
  have k4 : G[H.length + 1]? = some (.cells true 0 [nilS,.int .i64 0]) := by rw [hG]; simp
  have k5 : G[H.length + 2]? = some (.cells true 1 (strs pl)) := by rw [hG]; simp
  have lG : G.length = H.length + 3 := by rw [hG]; simp
  have xG : Ext H G := by rw [hG]; exact (((Ext.refl H).app _).app _).app _
  rw [← hG]
  clear hG hs2
  have tJs : ∀ {J' : AHeap},J'[H.length + 2]? = some (.cells true 1 (strs pl)) → Txts J' pl (.slice (some ⟨H.length + 2,0,none⟩) pl.length pl.length) := fun h => Txts.of_cells h
  generalize (Value.slice (some ⟨H.length + 2,0,none⟩) pl.length pl.length) = sv at tJs
  have tG := tJs k5
  (repeat(first|refine yw ?_|((first|apply yd|apply ye);simp (disch:=first|exact zz|fail) only[go_sem,tG.len,tG.idx,tG.load];with_reducible rfl)))
  refine awp_loop_n [false,false,true,true,true,false,false,false,false,false,false,true,true,true,false,false,false,false,false,false,false,false,false,false,false,false,false,false,false,false,false,false,false,false,false,false,false,false,false,false,false,false,false,false,false,false,false,false,false,false,false,false] pl.length (fun i e K => ∃ ns : List Int,e = [junk,junk,.pointer (some ⟨H.length,0,none⟩),.int .i64 0,.pointer (some ⟨H.length + 1,0,none⟩),junk,junk,junk,junk,junk,junk,sv,.int .i64 (pl.length : Nat),.int .i64 (i : Nat),junk,junk,junk,junk,junk,junk,junk,junk,junk,junk,junk,junk,junk,junk,junk,junk,junk,junk,junk,junk,junk,junk,junk,junk,junk,junk,junk,junk,junk,junk,junk,junk,junk,junk,junk,junk,junk,junk] ∧ FSt G K (H.length + 1) ns ∧ ns.length = i ∧
      numsS 4 pl = (numsS 4 (pl.drop i)).map (ns ++ ·)) ?_ ?_
  · refine ⟨[],by simp [forget],⟨⟨Nat.le_refl _,fun _ _ _ _ => rfl⟩,.inl ⟨rfl,k4⟩⟩,rfl,?_⟩
    rw [List.drop_zero]; cases numsS 4 pl <;> simp
  rintro i e K hi ⟨ns,rfl,⟨hk,hst⟩,hns,hq⟩
  have xK := hk.ext xG (by omega) (by omega)
  have kr := hk.get k2 (by omega) (by omega)
  have tK := tJs (hk.get k5 (by omega) (by omega))
  have hsK := hs.ext xK
  have hst2 : storeR 2 (.pointer (some ⟨H.length,0,none⟩)) (.agg ⟨[.slice none 0 0,.int .i64 0]⟩) K = some (undef,K.set H.length (.cells true 0 [nilS,.int .i64 0])) := store_at2v kr rfl rfl
  have bad : ∀ e : Int,parseFilterL l = (([],0),e) → FilterRes H (parseFilterL l) (.tuple #[.agg ⟨[nilS,.int .i64 0]⟩,.int .i64 e]) (K.set H.length (.cells true 0 [nilS,.int .i64 0])) := fun e hp => by
    rw [hp]
    exact ⟨nilS,rfl,xK.set (Nat.le_refl _) _,intsNil _⟩
  have fin0 : loadNR 2 (.pointer (some ⟨H.length,0,none⟩)) (K.set H.length (.cells true 0 [nilS,.int .i64 0])) = some (.agg ⟨[nilS,.int .i64 0]⟩,K.set H.length (.cells true 0 [nilS,.int .i64 0])) := loadN_at (get_set_self kr) (by simp)
  (refine yg ?_)
  refine cond_p rfl (fun hlt => ?_) (fun hge => ?_)
  rotate_left 1
  · obtain rfl : i = pl.length := by omega
    rw [List.drop_length] at hq
    have hq : numsS 4 pl = some ns := by rw [hq]; show some (ns ++ []) = _; rw [List.append_nil]
    rcases hst with ⟨rfl,_⟩ | ⟨d,c,v,rfl,hd,hb,ho⟩
    · simp at hns; omega
    rw [hq] at hP
    have hP : parseFilterL l = if 0 ≤ d then (if filterErrL c d = 0 then ((c,d),0) else (([],0),filterErrL c d)) else (([],0),7) := hP
    rw [if_pos hd] at hP
    have hcl : c.length ≤ 60001 := by simp at hns; omega
    have lb : loadNR 2 (.pointer (some ⟨H.length + 1,0,none⟩)) K = some (.agg ⟨[v,.int .i64 d]⟩,K) := loadN_at hb (by simp)
    (repeat(first|refine yw ?_|((first|apply yd|apply ye);simp (disch:=first|exact zz|fail) only[go_sem,lb];with_reducible rfl)))
    (refine aops_call_to (checkFilter_c (d := d) ho.ints (by omega)) ?_)
    by_cases he : filterErrL c d = 0
    · rw [if_pos he] at hP
      rw [he]
      have hat := ho.ints.atom
      have hs3 : storeR 2 (.pointer (some ⟨H.length,0,none⟩)) (.agg ⟨[v,.int .i64 d]⟩) K = some (undef,K.set H.length (.cells true 0 [v,.int .i64 d])) := store_at2v kr hat rfl
      (refine yg ?_)
      refine cond_f rfl ?_
      (repeat(first|refine yw ?_|((first|apply yd|apply ye);simp (disch:=first|exact zz|fail) only[go_sem,lb,hs3];with_reducible rfl)))
      refine fin_l2 (u := .agg ⟨[v,.int .i64 d]⟩) (loadN_at (k := 0) (n := 2) (get_set_self kr) (by simp)) ?_
      rw [hP]
      exact ⟨v,rfl,xK.set (Nat.le_refl _) _,(ho.set_lt (by omega) _).ints⟩
    · rw [if_neg he] at hP
      (repeat(first|refine yw ?_|((first|apply yd|apply ye);simp (disch:=first|exact zz|fail) only[go_sem,dec_t (show filterErrL c d ≠ 0 from he)];with_reducible rfl)))
      refine cond_t rfl ?_
      (repeat(first|refine yw ?_|((first|apply yd|apply ye);simp (disch:=first|exact zz|fail) only[go_sem,hst2];with_reducible rfl)))
      exact fin_l2 fin0 (bad _ hP)
  have hi2 : i < pl.length := by omega
  have e1 : (i : Int) + 1 = ((i + 1 : Nat) : Int) := by omega
  have hwm : pl.getD i [] ∈ pl := by rw [List.getD_eq_getElem?_getD,List.getElem?_eq_getElem hi2]; exact List.getElem_mem _
  have hwl := hpm _ hwm
  rw [drop_getD (d := ([] : List UInt8)) hi2] at hq
  have l1 := tK.load (Ext.refl _) hi2
  generalize pl.getD i [] = w at hwl hq l1
  (repeat(first|refine yw ?_|((first|apply yd|apply ye);simp (disch:=first|exact zz|fail) only[go_sem,tK.idx,l1];with_reducible rfl)))
  refine aops_call ((rNumberS_c hsK (l := w) (d := 4) (by omega)).mono fun v1 K1 ⟨⟨n,en,fn⟩,e⟩ => ?_)
  subst e
  subst en
  cases hq1 : numS 4 w with
  | none =>
    rw [numsS_none hq1] at hq
    have hq : numsS 4 pl = none := hq
    rw [hq] at hP
    have hP : parseFilterL l = (([],0),7) := hP
    (repeat(first|refine yw ?_|((first|apply yd|apply ye);simp (disch:=first|exact zz|fail) only[go_sem,Option.isSome_none];with_reducible rfl)))
    refine cond_t rfl ?_
    (repeat(first|refine yw ?_|((first|apply yd|apply ye);simp (disch:=first|exact zz|fail) only[go_sem,hst2];with_reducible rfl)))
    exact fin_l2 fin0 (bad _ hP)
  | some m =>
    obtain rfl := fn m hq1
    rw [numsS_cons hq1] at hq
    have hrest : ∀ {K' : AHeap},FSt G K' (H.length + 1) (ns ++ [n]) → _ := fun {K'} h => (⟨ns ++ [n],h,by simp [hns],by rw [hq]; cases numsS 4 (pl.drop (i + 1)) <;> simp⟩ : ∃ ms : List Int,FSt G K' (H.length + 1) ms ∧ ms.length = i + 1 ∧ numsS 4 pl = (numsS 4 (pl.drop (i + 1))).map (ms ++ ·))
    rcases hst with ⟨rfl,hb⟩ | ⟨d,c,v,rfl,hd,hb,ho⟩
    · obtain rfl : i = 0 := hns.symm
      by_cases h0 : 0 ≤ n
      rotate_left 1
      · have hP : parseFilterL l = (([],0),7) := by
          rw [hP,hq]
          cases numsS 4 (pl.drop (0 + 1)) with
          | none => rfl
          | some r => show (if 0 ≤ n then _ else _) = _; rw [if_neg h0]
        (repeat(first|refine yw ?_|((first|apply yd|apply ye);simp (disch:=first|exact zz|fail) only[go_sem,Option.isSome_some,dec_t (show ((0 : Nat) : Int) = 0 from rfl),dec_t (show n < 0 by omega)];with_reducible rfl)))
        refine cond_t rfl ?_
        (repeat(first|refine yw ?_|((first|apply yd|apply ye);simp (disch:=first|exact zz|fail) only[go_sem,hst2];with_reducible rfl)))
        exact fin_l2 fin0 (bad _ hP)
      have hsd : storeR 1 (.pointer (some ⟨H.length + 1,1,none⟩)) (.int .i64 n) K1 = some (undef,K1.set (H.length + 1) (.cells true 0 [nilS,.int .i64 n])) := store_in (i := 1) hb (by simp) rfl rfl
      have hF : FSt G (K1.set (H.length + 1) (.cells true 0 [nilS,.int .i64 n])) (H.length + 1) ([] ++ [n]) := ⟨hk.set (.inl rfl) _,.inr ⟨n,[],nilS,rfl,h0,get_set_self hb,OwnI.nil _ _⟩⟩
      obtain ⟨ms,m1,m2,m3⟩ := hrest hF
      (repeat(first|refine yw ?_|((first|apply yd|apply ye);simp (disch:=first|exact zz|fail) only[go_sem,Option.isSome_some,dec_t (show ((0 : Nat) : Int) = 0 from rfl),dec_f (show ¬ n < 0 by omega)];with_reducible rfl)))
      refine cond_f rfl ?_
      (repeat(first|refine yw ?_|((first|apply yd|apply ye);simp (disch:=first|exact zz|fail) only[go_sem,dec_t (show ((0 : Nat) : Int) = 0 from rfl)];with_reducible rfl)))
      refine cond_t rfl ?_
      (repeat(first|refine yw ?_|((first|apply yd|apply ye);simp (disch:=first|exact zz|fail) only[go_sem,hsd,e1];with_reducible rfl)))
      exact ⟨by omega,ms,by simp [forget],m1,m2,m3⟩
    · have hi0 : ¬ (i : Int) = 0 := by simp at hns; omega
      have hcl : c.length ≤ 60001 := by simp at hns; omega
      (repeat(first|refine yw ?_|((first|apply yd|apply ye);simp (disch:=first|exact zz|fail) only[go_sem,Option.isSome_some,dec_f hi0];with_reducible rfl)))
      refine cond_f rfl ?_
      (repeat(first|refine yw ?_|((first|apply yd|apply ye);simp (disch:=first|exact zz|fail) only[go_sem,dec_f hi0];with_reducible rfl)))
      refine cond_f rfl ?_
      have hne : v = .slice none 0 0 ∨ idOf v ≠ H.length + 1 := ho.nil_or (ho.aside (by omega))
      have lv : loadR (.pointer (some ⟨H.length + 1,0,none⟩)) K1 = some (v,K1) := by rw [load_at hb]; rfl
      have hb2 := pushH_at (l := c) (x := n) hb hne
      have hsv : storeR 1 (.pointer (some ⟨H.length + 1,0,none⟩)) (pushV K1 c.length) (pushH K1 v c n) = some (undef,(pushH K1 v c n).set (H.length + 1) (.cells true 0 [pushV K1 c.length,.int .i64 d])) := store_in (i := 0) hb2 (by simp) rfl rfl
      have hcb : c.length < 1000000000 := by omega
      have hF : FSt G ((pushH K1 v c n).set (H.length + 1) (.cells true 0 [pushV K1 c.length,.int .i64 d])) (H.length + 1) ((d :: c) ++ [n]) :=
        ⟨(hk.push ho (Nat.le_refl _) n).set (.inl rfl) _,.inr ⟨d,c ++ [n],pushV K1 c.length,rfl,hd,get_set_self hb2,(ho.pushed2 hk.1 n).set_lt (by omega) _⟩⟩
      obtain ⟨ms,m1,m2,m3⟩ := hrest hF
      (repeat(first|refine yw ?_|((first|apply yd|apply ye);simp (disch:=first|exact zz|fail) only[go_sem,lv,ho.push hcb,hsv,e1];with_reducible rfl)))
      exact ⟨by omega,ms,by simp [forget],m1,m2,m3⟩
end
end Go.Lq
