/- GrooveStrings is proved: for every input that can be read the law returns true, and each argument reads afterwards as it read before; the listed package variables hold what the program's text lays (the card ties them). -/
import Derived.Test.YtejkpmemicpheabGreatDoorCards
import Derived.Test.YtejkpmemicpheabGreatDoorTie
import Derived.LaidMore
import Derived.HandedShaped
import Derived.Lib.LaidTab
import Derived.Lay
import Derived.Stop.Joined
import Derived.Lib.AtoiAllCases
import Derived.Lib.ItoaLen
import Derived.Lib.SplitLaws
import Derived.Test.YtejkpmemicpheabGreatDoorV32
set_option linter.unusedSimpArgs false
set_option linter.unnecessarySimpa false
set_option linter.unusedVariables false
set_option linter.unusedSectionVars false
set_option maxRecDepth 100000
namespace Go.Lq
open Go Go.ChangeShapes Go.WideShapes Go.ChangeAt Go.RowKit
open Go.Proofs

theorem own_knob : ownKnob Tryz.prog.godebug = none := by kernel_rfl
theorem laid_out : laidOutB Tryz.prog = true := by kernel_rfl
def laidAll : List (String × DataW Unit) := [("math/bits.deBruijn32tab", YtejkpmemicpheabGreatDoor.Rows.laid_math_bits_deBruijn32tab), ("math/bits.deBruijn64tab", YtejkpmemicpheabGreatDoor.Rows.laid_math_bits_deBruijn64tab), ("internal/strconv.uint64pow10", YtejkpmemicpheabGreatDoor.Rows.laid_internal_strconv_uint64pow10), ("unicode/utf8.acceptRanges", YtejkpmemicpheabGreatDoor.Rows.laid_unicode_utf8_acceptRanges), ("strconv.ErrRange", YtejkpmemicpheabGreatDoor.Rows.laid_strconv_ErrRange), ("strconv.ErrSyntax", YtejkpmemicpheabGreatDoor.Rows.laid_strconv_ErrSyntax), ("lacquer/groove.sides", YtejkpmemicpheabGreatDoor.Rows.laid_lacquer_groove_sides), ("unicode/utf8.first", YtejkpmemicpheabGreatDoor.Rows.laid_unicode_utf8_first)]

theorem met_plain {W : World} : laidMetH Tryz.prog laidAll W = laidMet Tryz.prog laidAll W := MakeChecks.laidMetH_plain _ _ _ (by kernel_rfl)
theorem door_met (os : Os) (args : Array Value) : laidMetH Tryz.prog laidAll ((World.laidAll Tryz.prog os laidAll).forCall (fun _ _ => 0) ⟨#[], args, []⟩).memory := by
  rw [met_plain]; exact laidMet_laidAll _ (by kernel_rfl) (by kernel_rfl)
theorem door_shaped (os : Os) (args : Array Value) : ((World.laidAll Tryz.prog os laidAll).forCall (fun _ _ => 0) ⟨#[], args, []⟩).Shaped Tryz.prog := World.shaped_of_ZipB (by kernel_rfl) (by kernel_rfl)
theorem looks0 : true = Tryz.prog.looks [] := by kernel_rfl
theorem may_enter : Tryz.prog.mayEnter = true := by kernel_rfl
theorem stops_heard : Tryz.prog.stopsHeard = true := by kernel_rfl
theorem maps_rowed : mapsRowed Tryz.prog = true := by kernel_rfl

theorem glob_block {W : World} (hsh : W.ShapedOpen Tryz.prog) {g : Nat} (hg : g < 13) (h0 : (((begin Tryz.prog (fun _ _ => 0) default).world.heap[g]?).bind Obj.row?).isSome = true) : ∃ cs t, W.heap[g]? = some (.cells cs t) := by
  obtain ⟨⟨zero, t⟩, e⟩ := Option.isSome_iff_exists.1 h0
  obtain ⟨cs, h, _⟩ := hsh.1 g zero t (by rw [gSize]; exact hg) e
  exact ⟨cs, t, h⟩
theorem iface_cell {P : Program} {w : World} {held : Bool} {fuel : Nat} {t : TypeId} {ms} {cs : List Value} {n : String} {d : DataW Unit} {p : List MemPlace} (ht : P.underlying t = some (.interface ms))
    (h : DataW.trod (fun _ => ()) P w 0 (fun _ => true) held fuel t cs = some (.iface n d, p)) : ∃ u v, cs = [.iface u v] := by
  cases fuel with
  | zero => simp [DataW.trod] at h
  | succ fuel =>
    unfold DataW.trod at h
    rw [ht] at h
    split at h <;> first | (cases h; done) | (rename_i e; cases e; exact ⟨_, _, rfl⟩) | (rename_i e _; cases e; done) | (rename_i e; cases e; done) | skip
theorem gRange : Tryz.prog.globalNamed "strconv.ErrRange" = some 4 := by kernel_rfl
theorem gSyntax : Tryz.prog.globalNamed "strconv.ErrSyntax" = some 3 := by kernel_rfl
theorem gSides : Tryz.prog.globalNamed "lacquer/groove.sides" = some 2 := by kernel_rfl
theorem tTab : (Tryz.prog.globals[6]?).map (·.type) = some 245 := by kernel_rfl
theorem tErr3 : (Tryz.prog.globals[3]?).map (·.type) = some 94 := by kernel_rfl
theorem tErr4 : (Tryz.prog.globals[4]?).map (·.type) = some 94 := by kernel_rfl
theorem tSides : (Tryz.prog.globals[2]?).map (·.type) = some 214 := by kernel_rfl
def S0 (m : Int) (t u : TypeId) : AHeap := [.cells false 1 [], .cells false 1 [], .cells false 3 sidesC, .cells false 1 [.iface t junk], .cells false 1 [.iface u junk], .cells false 1 [.int .i64 m], .row tabRow, .cells false 1 [], .cells false 1 [], .cells false 1 [], .cells false 1 [], .cells false 1 [], .cells false 1 []]
theorem strH0 {m : Int} {t u : TypeId} {H : AHeap} (hx : Ext (S0 m t u) H) : StrH H :=
  ⟨⟨m, ext_at hx rfl⟩, ext_at hx rfl, ⟨t, ext_at hx rfl⟩, ⟨u, ext_at hx rfl⟩⟩
theorem strH {m : Int} {t u : TypeId} {H : AHeap} (hx : Ext (S0 m t u) H) : ∃ m t u, Ext (S0 m t u) H := ⟨m, t, u, hx⟩
theorem var_cells {P : Program} {W : World} {n : String} {g : Nat} {cs : Array Value} (hg : P.globalNamed n = some g) (h : W.var? P n = some cs) : ∃ t fz, W.heap[g]? = some (.cells cs t fz) := by
  unfold World.var? at h
  rw [hg] at h
  simp only [Option.bind_some] at h
  split at h
  · cases h; exact ⟨_, _, by assumption⟩
  · cases h

theorem masks {m : Int} {t u : TypeId} : Masks H0 (S0 m t u) := ⟨rfl, fun i => by
  match i with
  | 0 => exact .inr rfl
  | 1 => exact .inr rfl
  | 2 => exact .inl rfl
  | 3 => exact .inr rfl
  | 4 => exact .inr rfl
  | 5 => exact .inr rfl
  | 6 => exact .inr rfl
  | 7 => exact .inr rfl
  | 8 => exact .inr rfl
  | 9 => exact .inr rfl
  | 10 => exact .inr rfl
  | 11 => exact .inr rfl
  | 12 => exact .inr rfl
  | i + 13 => exact .inl rfl⟩
theorem awakeS_c {m : Int} {t u : TypeId} {H : AHeap} (h : Ext (S0 m t u) H) : ACall Go.Proofs.Tryz.prog 5 [] H fun v H' => v = .bool true ∧ H' = H := by
  obtain ⟨M, rfl⟩ := h
  have h1 := ACall.frame (by rw [gSize]; exact Nat.le_refl _) own0 (fun x hx => by cases hx) (.bool _) awake0_c (List.replicate M.length .dead)
  refine h1.mask ⟨by simp [H0, S0], fun i => ?_⟩ (fun i x hx => ?_) (.bool _)
  · by_cases hi : i < 13
    · have e1 : (H0 ++ List.replicate M.length AObj.dead)[i]? = H0[i]? := List.getElem?_append_left hi
      have e2 : (S0 m t u ++ M)[i]? = (S0 m t u)[i]? := List.getElem?_append_left hi
      rw [e1, e2]; exact masks.2 i
    · have e1 : (H0 ++ List.replicate M.length AObj.dead)[i]? = (List.replicate M.length AObj.dead)[i - 13]? := List.getElem?_append_right (by show 13 ≤ i; omega)
      have e2 : (S0 m t u ++ M)[i]? = M[i - 13]? := List.getElem?_append_right (by show 13 ≤ i; omega)
      rw [e1, e2]
      by_cases hl : i - 13 < M.length
      · right; simp [hl]
      · left; simp [hl]
  · by_cases hi : i < 13
    · have e1 : (H0 ++ List.replicate M.length AObj.dead)[i]? = H0[i]? := List.getElem?_append_left hi
      rw [e1] at hx
      have := own0_closed i x hx
      match x with
      | .dead => trivial
      | .row _ => trivial
      | .loop _ => exact this
      | .map _ => exact this
      | .cells _ _ vs => exact fun v hv => (this v hv).ren _ _
    · have e1 : (H0 ++ List.replicate M.length AObj.dead)[i]? = (List.replicate M.length AObj.dead)[i - 13]? := List.getElem?_append_right (by show 13 ≤ i; omega)
      rw [e1] at hx
      have := List.mem_of_getElem? hx
      rw [(List.mem_replicate.1 this).2]
      trivial
theorem of_laid {W : World} (h : laidMetH Tryz.prog laidAll W) (hsh : W.ShapedOpen Tryz.prog) : ∃ m t u, Laid W [⟨0, 0, 0⟩, ⟨1, 0, 0⟩, ⟨2, 0, 0⟩, ⟨3, 0, 0⟩, ⟨4, 0, 0⟩, ⟨5, 0, 0⟩, ⟨6, 0, 0⟩, ⟨7, 0, 0⟩, ⟨8, 0, 0⟩, ⟨9, 0, 0⟩, ⟨10, 0, 0⟩, ⟨11, 0, 0⟩, ⟨12, 0, 0⟩] (S0 m t u) := by
  rw [met_plain] at h
  obtain ⟨ps, hv, _⟩ := h
  obtain ⟨_, _, _, _, _, _, _, _, _, _, hv, _⟩ := hv
  obtain ⟨_, _, _, _, _, _, _, _, _, _, hv, _⟩ := hv
  obtain ⟨g6, t6, c6, f6, p6, _, a6, b6, v6, d6, hv, _⟩ := hv
  obtain ⟨_, _, _, _, _, _, _, _, _, _, hv, _⟩ := hv
  obtain ⟨g4, t4, c4, f4, p4, _, a4, b4, v4, d4, hv, _⟩ := hv
  obtain ⟨g3, t3, c3, f3, p3, _, a3, b3, v3, d3, hv, _⟩ := hv
  obtain ⟨g2, t2, c2, f2, p2, _, a2, b2, v2, d2, hv, _⟩ := hv
  obtain rfl := Option.some.inj (gTab.symm.trans a6)
  obtain rfl := Option.some.inj (gRange.symm.trans a4)
  obtain rfl := Option.some.inj (gSyntax.symm.trans a3)
  obtain rfl := Option.some.inj (gSides.symm.trans a2)
  obtain rfl := Option.some.inj (tTab.symm.trans b6)
  obtain rfl := Option.some.inj (tErr4.symm.trans b4)
  obtain rfl := Option.some.inj (tErr3.symm.trans b3)
  obtain rfl := Option.some.inj (tSides.symm.trans b2)
  obtain ⟨m, hm⟩ := cell_of_shapedOpen_int (P := Tryz.prog) (g := 5) (zero := #[.int .i64 0]) (t := 3) hsh (of_decide_eq_true (by kernel_rfl)) (by kernel_rfl) rfl (by kernel_rfl) (by kernel_rfl) Tryz.underlying3
  have e6 : c6.toList = Lib.pow10Tab.map fun z => Value.int .u64 z := Lib.cells_of_tab (t := 245) (e := 221) (n := 20) (k := .u64) (zs := Lib.pow10Tab) (by kernel_rfl) (by kernel_rfl) (by kernel_rfl) (by kernel_rfl) d6
  have e6 : c6 = tabRow := by
    unfold tabRow
    rw [← e6]
  subst e6
  have hcs := flat_of 5 _ _ _ _ d2 (by kernel_rfl)
  obtain ⟨u, x4, e4⟩ := iface_cell Tryz.underlying94 d4
  obtain ⟨t, x3, e3⟩ := iface_cell Tryz.underlying94 d3
  obtain ⟨k0, s0, h0⟩ := glob_block (g := 0) hsh (by decide) (by kernel_rfl)
  obtain ⟨k1, s1, h1⟩ := glob_block (g := 1) hsh (by decide) (by kernel_rfl)
  obtain ⟨s2, z2, h2⟩ := var_cells gSides v2
  obtain ⟨s3, z3, h3⟩ := var_cells gSyntax v3
  obtain ⟨s4, z4, h4⟩ := var_cells gRange v4
  obtain ⟨k5, s5, h5⟩ := glob_block (g := 5) hsh (by decide) (by kernel_rfl)
  obtain ⟨s6, z6, h6⟩ := var_cells gTab v6
  obtain ⟨k7, s7, h7⟩ := glob_block (g := 7) hsh (by decide) (by kernel_rfl)
  obtain ⟨k8, s8, h8⟩ := glob_block (g := 8) hsh (by decide) (by kernel_rfl)
  obtain ⟨k9, s9, h9⟩ := glob_block (g := 9) hsh (by decide) (by kernel_rfl)
  obtain ⟨k10, s10, h10⟩ := glob_block (g := 10) hsh (by decide) (by kernel_rfl)
  obtain ⟨k11, s11, h11⟩ := glob_block (g := 11) hsh (by decide) (by kernel_rfl)
  obtain ⟨k12, s12, h12⟩ := glob_block (g := 12) hsh (by decide) (by kernel_rfl)
  refine ⟨m, t, u, ?_⟩
  have one : ∀ {cs : Array Value} {t : TypeId} {x : Value}, cs.toList = [.iface t x] → ∀ (B : List ALoc) (k : Nat) (v : Value), [Value.iface t junk][k]? = some v → ∃ cv, cs[0 + k]? = some cv ∧ VR (betaOf B) v cv := fun {cs t x} e B k v hk => by
    cases k with
    | zero =>
      simp at hk
      subst hk
      exact ⟨.iface t x, by rw [← Array.getElem?_toList, e]; rfl, .iface _ (.junk _)⟩
    | succ k => simp at hk
  have L1 := ((Laid.none W).blank h0 1 0).blank h1 1 0
  have L2 := Laid.table L1 h2 (hcs.symm.trans (by rfl)) (vs := sidesC) (fun v hv => by
    simp only [sidesC, List.mem_cons, List.not_mem_nil, or_false] at hv
    rcases hv with rfl | rfl | rfl | rfl | rfl | rfl | rfl | rfl | rfl | rfl | rfl | rfl | rfl | rfl | rfl <;> exact .int _ _) 3 0
  have L3 := L2.push (p := ⟨3, 0, 0⟩) (esz := 1) (vs := [.iface t junk]) h3 (one e3 _)
  have L4 := L3.push (p := ⟨4, 0, 0⟩) (esz := 1) (vs := [.iface u junk]) h4 (one e4 _)
  have L5 := L4.push (p := ⟨5, 0, 0⟩) (esz := 1) (vs := [.int .i64 m]) h5 fun k v hk => by
    cases k with
    | zero =>
      simp at hk
      subst hk
      refine ⟨_, ?_, .int _ _⟩
      unfold World.cell? at hm
      rw [h5] at hm
      simpa using hm
    | succ k => simp at hk
  have L6 := L5.row (p := ⟨6, 0, 0⟩) h6
  exact (((((L6.blank h7 1 0).blank h8 1 0).blank h9 1 0).blank h10 1 0).blank h11 1 0).blank h12 1 0
theorem globs {m : Int} {t u : TypeId} : Tryz.prog.globals.size ≤ (S0 m t u).length := by rw [gSize]; exact Nat.le_refl _
theorem glob_at : ∀ g, g < Tryz.prog.globals.size → ∃ r, ([⟨0, 0, 0⟩, ⟨1, 0, 0⟩, ⟨2, 0, 0⟩, ⟨3, 0, 0⟩, ⟨4, 0, 0⟩, ⟨5, 0, 0⟩, ⟨6, 0, 0⟩, ⟨7, 0, 0⟩, ⟨8, 0, 0⟩, ⟨9, 0, 0⟩, ⟨10, 0, 0⟩, ⟨11, 0, 0⟩, ⟨12, 0, 0⟩] : List ALoc)[g]? = some ⟨g, 0, r⟩ := fun g hg => by
  rw [gSize] at hg
  match g, hg with
  | 0, _ => exact ⟨0, rfl⟩
  | 1, _ => exact ⟨0, rfl⟩
  | 2, _ => exact ⟨0, rfl⟩
  | 3, _ => exact ⟨0, rfl⟩
  | 4, _ => exact ⟨0, rfl⟩
  | 5, _ => exact ⟨0, rfl⟩
  | 6, _ => exact ⟨0, rfl⟩
  | 7, _ => exact ⟨0, rfl⟩
  | 8, _ => exact ⟨0, rfl⟩
  | 9, _ => exact ⟨0, rfl⟩
  | 10, _ => exact ⟨0, rfl⟩
  | 11, _ => exact ⟨0, rfl⟩
  | 12, _ => exact ⟨0, rfl⟩
end Go.Lq

namespace Go.Lq
open Go Go.ChangeShapes Go.WideShapes Go.ChangeAt Go.RowKit
open Go.Proofs
theorem lifts_final : Tryz.prog.liftsFinal = YtejkpmemicpheabGreatDoor.Rows.grooveStringsRow.lifted := by kernel_rfl
theorem make_is : Tryz.prog.make = some YtejkpmemicpheabGreatDoor.Rows.grooveStringsRow.make := by kernel_rfl
theorem main_is : Tryz.prog.mainIs = some (true, "b6ed69e075042afda5914e78007f13ba12b7d006960e49b0d1e2d8922cba905d".toList) := by kernel_rfl
end Go.Lq


namespace Go.Lq
open Go
open Go.Proofs

theorem a_sub8 {H : AHeap} {a b : Int} (h0 : 0 ≤ a - b) (h1 : a - b < 256) : arithR .sub (.int .u8 a) (.int .u8 b) H = some (.int .u8 (a - b), H) := by
  have : IntKind.u8.wrap (a - b) = a - b := by
    unfold IntKind.wrap IntKind.bits
    have : (2 : Int) ^ 8 = 256 := by decide
    simp [IntKind.signed]
    omega
  simp [arithR, arithA, this]
theorem at8_bounds (l : List UInt8) (n : Int) : 0 ≤ at8 l n ∧ at8 l n < 256 := by
  unfold at8
  have := (l.getD n.toNat 0).toNat_lt
  omega
attribute [go_sem] a_sub8

def digV (acc : Int) : List UInt8 → Option Int
  | [] => some acc
  | b :: r => if ((b.toNat : Nat) : Int) < 48 ∨ 57 < ((b.toNat : Nat) : Int) then none else digV (10 * acc + (((b.toNat : Nat) : Int) - 48)) r
def signAt (l : List UInt8) : Nat := if 0 < l.length ∧ at8 l 0 = 45 then 1 else 0
def numB (d : Int) (l : List UInt8) : Option Int :=
  if (l.length : Int) = (signAt l : Nat) ∨ d < (l.length : Int) - (signAt l : Nat) ∨ (at8 l (signAt l : Nat) = 48 ∧ 1 < (l.length : Int)) then none
  else (digV 0 (l.drop (signAt l))).map fun n => if ((signAt l : Nat) : Int) = 1 then -n else n
theorem digV_step {l : List UInt8} {i : Nat} (h : i < l.length) (acc : Int) : digV acc (l.drop i) = if at8 l i < 48 ∨ 57 < at8 l i then none else digV (10 * acc + (at8 l i - 48)) (l.drop (i + 1)) := by
  rw [drop_getD (d := (0 : UInt8)) h]
  rfl
section
variable {H : AHeap}
theorem refNumber_c {l : List UInt8} {d : Int} (hd : d ≤ 18) (hl : l.length ≤ 1000000) : ACall Go.Proofs.Tryz.prog 45 [.string (bs l), .int .i64 d] H fun v H' =>
    v = .tuple #[.int .i64 ((numB d l).getD 0), .bool (numB d l).isSome] ∧ H' = H := by
  (refine a45 ?_; simp only [n45, List.replicate, yq, yr, yt, yu]; first | refine q1 ?_ | refine q2 ?_ | refine q6 ?_ | refine q7 ?_ | refine qh rfl ?_ | skip)
  (refine yx ?_; (first | apply aops_all | apply adraw_all); simp (disch := first|exact zz|fail) only [go_sem]; with_reducible rfl)
  (refine yx ?_; (first | apply aops_all | apply adraw_all); simp (disch := first|exact zz|fail) only [go_sem]; with_reducible rfl)
  refine awp_seq ?_
  refine awp_mid [true, true, false, false, true, true, true, false, false, false, false, false, false, false, false, false, false, false, false, false, false, false, false, false, false, false, false, false, false, false, false, false, false, false, false, false, false, false, false, false, false, false, false, false, false, false, false, false, false, false, false, false, false, false, false, false, false, false, false, false, false, false, false, false, false, false, false, false, false, false] (fun e J => J = H ∧ e = [.string (bs l), .int .i64 d, junk, junk, .int .i64 0, .bool false, .int .i64 ((signAt l : Nat) : Int), junk, junk, junk, junk, junk, junk, junk, junk, junk, junk, junk, junk, junk, junk, junk, junk, junk, junk, junk, junk, junk, junk, junk, junk, junk, junk, junk, junk, junk, junk, junk, junk, junk, junk, junk, junk, junk, junk, junk, junk, junk, junk, junk, junk, junk, junk, junk, junk, junk, junk, junk, junk, junk, junk, junk, junk, junk, junk, junk, junk, junk, junk, junk]) ?_ ?_
  · by_cases hp : 0 < l.length
    · have hp' : (0 : Int) < (l.length : Int) := by omega
      by_cases h45 : at8 l 0 = 45
      · have hs : ((signAt l : Nat) : Int) = 1 := by unfold signAt; rw [if_pos ⟨hp, h45⟩]; rfl
        (repeat (first | refine yw ?_ | ((first | apply yd | apply ye); simp (disch := first|exact zz|fail) only [go_sem, dec_t hp', dec_t h45]; with_reducible rfl)))
        refine cond_t rfl ?_
        (refine yg ?_)
        exact ⟨rfl, rfl, by simp [forget, hs]⟩
      · have hs : ((signAt l : Nat) : Int) = 0 := by unfold signAt; rw [if_neg (fun h => h45 h.2)]; rfl
        (repeat (first | refine yw ?_ | ((first | apply yd | apply ye); simp (disch := first|exact zz|fail) only [go_sem, dec_t hp', dec_f h45]; with_reducible rfl)))
        refine cond_f rfl ?_
        (refine yg ?_)
        exact ⟨rfl, rfl, by simp [forget, hs]⟩
    · have hs : ((signAt l : Nat) : Int) = 0 := by unfold signAt; rw [if_neg (fun h => hp h.1)]; rfl
      have hp' : ¬ (0 : Int) < (l.length : Int) := by omega
      (repeat (first | refine yw ?_ | ((first | apply yd | apply ye); simp (disch := first|exact zz|fail) only [go_sem, dec_f hp']; with_reducible rfl)))
      refine cond_f rfl ?_
      (refine yg ?_)
      exact ⟨rfl, rfl, by simp [forget, hs]⟩
  rintro e J ⟨rfl, rfl⟩
  obtain ⟨a, ha⟩ : ∃ a, a = signAt l := ⟨_, rfl⟩
  have ha1 : a ≤ 1 ∧ a ≤ l.length := by rw [ha]; unfold signAt; split <;> omega
  rw [← ha]
  have hN : numB d l = if (l.length : Int) = (a : Nat) ∨ d < (l.length : Int) - (a : Nat) ∨ (at8 l (a : Nat) = 48 ∧ 1 < (l.length : Int)) then none
      else (digV 0 (l.drop a)).map fun n => if ((a : Nat) : Int) = 1 then -n else n := by rw [ha]; rfl
  by_cases h1 : (l.length : Int) = (a : Nat)
  · rw [if_pos (.inl h1)] at hN
    rw [hN]
    (repeat (first | refine yw ?_ | ((first | apply yd | apply ye); simp (disch := first|exact zz|fail) only [go_sem, dec_t h1]; with_reducible rfl)))
    refine cond_t rfl ?_
    (refine yg ?_)
    exact fin_2 ⟨rfl, rfl⟩
  by_cases h2 : d < (l.length : Int) - (a : Nat)
  · rw [if_pos (.inr (.inl h2))] at hN
    rw [hN]
    (repeat (first | refine yw ?_ | ((first | apply yd | apply ye); simp (disch := first|exact zz|fail) only [go_sem, dec_f h1, dec_t h2]; with_reducible rfl)))
    refine cond_t rfl ?_
    (refine yg ?_)
    exact fin_2 ⟨rfl, rfl⟩
  by_cases h3 : at8 l (a : Nat) = 48 ∧ 1 < (l.length : Int)
  · rw [if_pos (.inr (.inr h3))] at hN
    rw [hN]
    (repeat (first | refine yw ?_ | ((first | apply yd | apply ye); simp (disch := first|exact zz|fail) only [go_sem, dec_f h1, dec_f h2, dec_t h3.1, dec_t h3.2]; with_reducible rfl)))
    refine cond_t rfl ?_
    (refine yg ?_)
    exact fin_2 ⟨rfl, rfl⟩
  rw [if_neg (fun h => h.elim h1 fun h => h.elim h2 h3)] at hN
  refine awp_seq ?_
  refine awp_mid [true, true, false, false, true, true, true, false, false, false, false, false, false, false, false, false, false, false, false, false, false, false, false, false, false, false, false, false, false, false, false, false, false, false, false, false, false, false, false, false, false, false, false, false, false, false, false, false, false, false, false, false, false, false, false, false, false, false, false, false, false, false, false, false, false, false, false, false, false, false] (fun e K => K = J ∧ e = [.string (bs l), .int .i64 d, junk, junk, .int .i64 0, .bool false, .int .i64 (a : Nat), junk, junk, junk, junk, junk, junk, junk, junk, junk, junk, junk, junk, junk, junk, junk, junk, junk, junk, junk, junk, junk, junk, junk, junk, junk, junk, junk, junk, junk, junk, junk, junk, junk, junk, junk, junk, junk, junk, junk, junk, junk, junk, junk, junk, junk, junk, junk, junk, junk, junk, junk, junk, junk, junk, junk, junk, junk, junk, junk, junk, junk, junk, junk]) ?_ ?_
  · by_cases h4 : at8 l (a : Nat) = 48
    · have h5 : ¬ 1 < (l.length : Int) := fun h => h3 ⟨h4, h⟩
      (repeat (first | refine yw ?_ | ((first | apply yd | apply ye); simp (disch := first|exact zz|fail) only [go_sem, dec_f h1, dec_f h2, dec_t h4, dec_f h5]; with_reducible rfl)))
      refine cond_f rfl ?_
      (refine yg ?_)
      exact ⟨rfl, rfl, by simp [forget]⟩
    · (repeat (first | refine yw ?_ | ((first | apply yd | apply ye); simp (disch := first|exact zz|fail) only [go_sem, dec_f h1, dec_f h2, dec_f h4]; with_reducible rfl)))
      refine cond_f rfl ?_
      (refine yg ?_)
      exact ⟨rfl, rfl, by simp [forget]⟩
  rintro e K ⟨rfl, rfl⟩
  (refine yg ?_)
  refine awp_loop_n [true, false, false, false, true, true, true, true, true, false, false, false, false, false, false, false, false, false, false, false, false, false, false, false, false, false, false, false, false, false, false, false, false, false, false, false, false, false, false, false, false, false, false, false, false, false, false, false, false, false, false, false, false, false, false, false, false, false, false, false, false, false, false, false, false, false, false, false, false, false] (l.length - a) (fun j e K' => ∃ n, K' = K ∧ e = [.string (bs l), junk, junk, junk, .int .i64 0, .bool false, .int .i64 (a : Nat), .int .i64 n, .int .i64 ((a + j : Nat) : Int), junk, junk, junk, junk, junk, junk, junk, junk, junk, junk, junk, junk, junk, junk, junk, junk, junk, junk, junk, junk, junk, junk, junk, junk, junk, junk, junk, junk, junk, junk, junk, junk, junk, junk, junk, junk, junk, junk, junk, junk, junk, junk, junk, junk, junk, junk, junk, junk, junk, junk, junk, junk, junk, junk, junk, junk, junk, junk, junk, junk, junk] ∧ 0 ≤ n ∧ n < 10 ^ j ∧ digV 0 (l.drop a) = digV n (l.drop (a + j))) ?_ ?_
  · exact ⟨0, rfl, by simp [forget], by omega, by decide, rfl⟩
  rintro j e K' hj ⟨n, rfl, rfl, n0, n1, hn⟩
  have hp18 : (10 : Int) ^ j ≤ 10 ^ 18 := by
    have : (10 : Nat) ^ j ≤ 10 ^ 18 := Nat.pow_le_pow_right (by decide) (by omega)
    exact_mod_cast this
  have h18 : (10 : Int) ^ 18 = 1000000000000000000 := by decide
  rw [h18] at hp18
  have hps : (10 : Int) ^ (j + 1) = 10 ^ j * 10 := Int.pow_succ ..
  (refine yg ?_)
  refine cond_p rfl (fun hlt => ?_) (fun hge => ?_)
  rotate_left 1
  · have hend : a + j = l.length := by omega
    rw [hend, List.drop_length] at hn
    have hn : digV 0 (l.drop a) = some n := hn
    rw [hn] at hN
    by_cases h6 : ((a : Nat) : Int) = 1
    · have hN : numB d l = some (-n) := by rw [hN]; simp [h6]
      rw [hN]
      (repeat (first | refine yw ?_ | ((first | apply yd | apply ye); simp (disch := first|exact zz|fail) only [go_sem, dec_t h6]; with_reducible rfl)))
      refine cond_t rfl ?_
      (refine yg ?_)
      refine fin_2 ⟨?_, rfl⟩
      simp
    · have hN : numB d l = some n := by rw [hN]; simp [h6]
      rw [hN]
      (repeat (first | refine yw ?_ | ((first | apply yd | apply ye); simp (disch := first|exact zz|fail) only [go_sem, dec_f h6]; with_reducible rfl)))
      refine cond_f rfl ?_
      (refine yg ?_)
      exact fin_2 ⟨rfl, rfl⟩
  have hi : a + j < l.length := by omega
  have hp17 : (10 : Int) ^ (j + 1) ≤ 1000000000000000000 := by
    have : (10 : Nat) ^ (j + 1) ≤ 10 ^ 18 := Nat.pow_le_pow_right (by decide) (by omega)
    rw [← h18]
    exact_mod_cast this
  have n2 : 10 * n < 1000000000000000000 := by omega
  rw [digV_step hi] at hn
  obtain ⟨b0, b1⟩ := at8_bounds l ((a + j : Nat) : Int)
  by_cases c1 : at8 l ((a + j : Nat) : Int) < 48
  · rw [if_pos (.inl c1)] at hn
    have hN : numB d l = none := by rw [hN, hn]; rfl
    rw [hN]
    (repeat (first | refine yw ?_ | ((first | apply yd | apply ye); simp (disch := first|exact zz|fail) only [go_sem, dec_t c1]; with_reducible rfl)))
    refine cond_t rfl ?_
    (refine yg ?_)
    exact fin_2 ⟨rfl, rfl⟩
  by_cases c2 : 57 < at8 l ((a + j : Nat) : Int)
  · rw [if_pos (.inr c2)] at hn
    have hN : numB d l = none := by rw [hN, hn]; rfl
    rw [hN]
    (repeat (first | refine yw ?_ | ((first | apply yd | apply ye); simp (disch := first|exact zz|fail) only [go_sem, dec_f c1, dec_t c2]; with_reducible rfl)))
    refine cond_t rfl ?_
    (refine yg ?_)
    exact fin_2 ⟨rfl, rfl⟩
  rw [if_neg (fun h => h.elim c1 c2)] at hn
  have e1 : ((a + j : Nat) : Int) + 1 = ((a + (j + 1) : Nat) : Int) := by omega
  (repeat (first | refine yw ?_ | ((first | apply yd | apply ye); simp (disch := first|exact zz|fail) only [go_sem, dec_f c1, dec_f c2]; with_reducible rfl)))
  refine cond_f rfl ?_
  (repeat (first | refine yw ?_ | ((first | apply yd | apply ye); simp (disch := first|exact zz|fail) only [go_sem, e1]; with_reducible rfl)))
  exact ⟨by omega, 10 * n + (at8 l ((a + j : Nat) : Int) - 48), rfl, by simp [forget], by omega, by omega, by rw [hn, show a + (j + 1) = a + j + 1 by omega]⟩
end
end Go.Lq

namespace Go.Lq
open Go
open Go.Proofs

def numR (d : Int) (l : List UInt8) : Option Int := match numB d l with | some n => if at8 l 0 ≠ 45 then some n else none | none => none
theorem numB_pos {d : Int} {l : List UInt8} {n : Int} (h : numB d l = some n) : 0 < l.length := by
  match l with
  | [] =>
    unfold numB at h
    rw [if_pos (.inl (by rfl))] at h
    cases h
  | _ :: _ => simp
section
variable {H : AHeap}
theorem dec_step {u : Nat} (h : ¬ u < 10) : Lib.decDigits u = Lib.decDigits (u / 10) ++ [UInt8.ofNat (48 + u % 10)] := by
  rw [Lib.decDigits, dif_neg h]
theorem size_c (n : Int) (hn : -9223372036854775807 ≤ n ∧ n ≤ 9223372036854775807) : ACall Go.Proofs.Tryz.prog 104 [.int .i64 n] H fun v H' => v = .int .i64 (max n (-n)) ∧ H' = H := by
  (refine a104 ?_; simp only [n104, List.replicate, yq, yr, yt, yu]; first | refine q1 ?_ | refine q2 ?_ | refine q6 ?_ | refine q7 ?_ | refine qh rfl ?_ | skip)
  (refine yg ?_)
  refine fin_1 ⟨?_, rfl⟩
  simp
theorem tmod_abs (m : Int) : max (m.tmod 10) (-(m.tmod 10)) = ((m.natAbs % 10 : Nat) : Int) := by
  rcases Int.lt_or_le m 0 with h | h
  · obtain ⟨k, rfl⟩ : ∃ k : Nat, m = -(k : Int) := ⟨m.natAbs, by omega⟩
    have h2 : (k : Int).tmod 10 = ((k % 10 : Nat) : Int) := rfl
    rw [Int.neg_tmod, h2, Int.natAbs_neg, Int.natAbs_natCast]
    omega
  · obtain ⟨k, rfl⟩ : ∃ k : Nat, m = (k : Int) := ⟨m.natAbs, by omega⟩
    have h2 : (k : Int).tmod 10 = ((k % 10 : Nat) : Int) := rfl
    rw [h2, Int.natAbs_natCast]
    omega
theorem tdiv_abs (m : Int) : (m.tdiv 10).natAbs = m.natAbs / 10 := by
  rw [Int.natAbs_tdiv]; rfl
theorem tdiv_small (m : Int) (h0 : -9223372036854775808 ≤ m) (h1 : m ≤ 9223372036854775807) : -9223372036854775808 ≤ m.tdiv 10 ∧ m.tdiv 10 ≤ 9223372036854775807 := by
  have := tdiv_abs m
  omega
theorem conv_i8 {H : AHeap} {a : Int} (h0 : 0 ≤ a) (h : a < 256) : convR .u8 (.int .i64 a) H = some (.int .u8 a, H) := by
  simp only [convR, IntKind.wrap, IntKind.bits]
  have : (2 : Int) ^ 8 = 256 := by decide
  simp [IntKind.signed]
  omega

theorem decimal_c {n : Int} (h0 : -9223372036854775808 ≤ n) (h1 : n ≤ 9223372036854775807) : ACall Go.Proofs.Tryz.prog 46 [.int .i64 n] H fun v H' => v = .string (bs (Lib.itoa n)) ∧ H' = H := by
  refine ACall.drop (.string _) ?_
  (refine a46 ?_; simp only [n46, List.replicate, yq, yr, yt, yu]; first | refine q1 ?_ | refine q2 ?_ | refine q6 ?_ | refine q7 ?_ | refine qh rfl ?_ | skip)
  by_cases hz : n = 0
  · subst hz
    (refine yg ?_)
    refine cond_t rfl ?_
    (refine yg ?_)
    refine fin_1 ⟨?_, Ext.refl _⟩
    have : Lib.itoa 0 = [48] := by unfold Lib.itoa; rw [if_neg (by decide), show (0 : Int).toNat = 0 from rfl, Lib.decDigits]; rfl
    rw [this]; rfl
  (repeat (first | refine yw ?_ | ((first | apply yd | apply ye); simp (disch := first|exact zz|fail) only [go_sem, dec_f hz]; with_reducible rfl)))
  refine cond_f rfl ?_
  (refine yx ?_; (first | apply aops_all | apply adraw_all); simp (disch := first|exact zz|fail) only [go_sem]; with_reducible rfl)
  refine awp_seq ?_
  refine awp_mid [true, false, true, true, true, false, false, false, false, false, false, false, false, false, false, false, false, false, false, false, false, false, false, false, false, false, false] (fun e J => J = H ∧ e = [.int .i64 n, junk, .string (bs []), .string (bs []), .string (bs (if n < 0 then [45] else [])), junk, junk, junk, junk, junk, junk, junk, junk, junk, junk, junk, junk, junk, junk, junk, junk, junk, junk, junk, junk, junk, junk]) ?_ ?_
  · by_cases hneg : n < 0
    · (repeat (first | refine yw ?_ | ((first | apply yd | apply ye); simp (disch := first|exact zz|fail) only [go_sem, dec_t hneg]; with_reducible rfl)))
      refine cond_t rfl ?_
      (refine yg ?_)
      exact ⟨rfl, rfl, by simp [forget, hneg]⟩
    · (repeat (first | refine yw ?_ | ((first | apply yd | apply ye); simp (disch := first|exact zz|fail) only [go_sem, dec_f hneg]; with_reducible rfl)))
      refine cond_f rfl ?_
      (refine yg ?_)
      exact ⟨rfl, rfl, by simp [forget, hneg]⟩
  rintro e J ⟨rfl, rfl⟩
  obtain ⟨sg, hsg⟩ : ∃ sg : List UInt8, sg = if n < 0 then [45] else [] := ⟨_, rfl⟩
  have hsl : sg.length ≤ 1 := by rw [hsg]; split <;> simp
  have hit : Lib.itoa n = sg ++ Lib.decDigits n.natAbs := by
    rw [hsg]; unfold Lib.itoa
    split
    · rfl
    · rw [show n.toNat = n.natAbs by omega]; rfl
  rw [← hsg]
  have hdl : (Lib.decDigits n.natAbs).length ≤ 21 := by
    have := Lib.itoa_length_le n h0 h1
    rw [hit, List.length_append] at this
    omega
  refine yx ?_
  refine awp_loop [true, false, true, true, true, false, false, false, false, false, false, false, false, false, false, false, false, false, false, false, false, false, false, false, false, false, false] (fun k e J' => Ext J J' ∧ ∃ (m : Int) (s : List UInt8), k = m.natAbs ∧ (-9223372036854775808 ≤ m ∧ m ≤ 9223372036854775807) ∧ (if m = 0 then s else Lib.decDigits m.natAbs ++ s) = Lib.decDigits n.natAbs ∧
      e = [.int .i64 m, junk, .string (bs []), .string (bs s), .string (bs sg), junk, junk, junk, junk, junk, junk, junk, junk, junk, junk, junk, junk, junk, junk, junk, junk, junk, junk, junk, junk, junk, junk]) n.natAbs ?_ ?_
  · exact ⟨Ext.refl _, n, [], rfl, ⟨h0, h1⟩, by rw [if_neg hz, List.append_nil], by simp [forget]⟩
  rintro k e J' ⟨x1, m, s, rfl, ⟨m0, m1⟩, hs, rfl⟩
  by_cases hm : m = 0
  · rw [if_pos hm] at hs
    subst hs
    (repeat (first | refine yw ?_ | ((first | apply yd | apply ye); simp (disch := first|exact zz|fail) only [go_sem, dec_f (fun h : m ≠ 0 => h hm)]; with_reducible rfl)))
    refine cond_f rfl ?_
    (refine yg ?_)
    refine fin_1 ⟨?_, x1⟩
    rw [hit]; rfl
  have hm' : m ≠ 0 := hm
  rw [if_neg hm] at hs
  have hsl : s.length ≤ 21 := by
    have := congrArg List.length hs
    rw [List.length_append] at this
    omega
  obtain ⟨t0, t1⟩ := tdiv_small m m0 m1
  have tm := tmod_abs m
  have tl := Nat.mod_lt m.natAbs (show 0 < 10 by decide)
  (repeat (first | refine yw ?_ | ((first | apply yd | apply ye); simp (disch := first|exact zz|fail) only [go_sem, dec_t hm']; with_reducible rfl)))
  refine cond_t rfl ?_
  (refine yg ?_)
  refine aops_call_to (size_c (m.tmod 10) (by omega)) ?_
  rw [tm]
  (repeat (first | refine yw ?_ | ((first | apply yd | apply ye); simp (disch := first|exact zz|fail) only [go_sem, conv_i8, w64_id (n := m.tdiv 10) t0 t1]; with_reducible rfl)))
  have e1 : (48 + ((m.natAbs % 10 : Nat) : Int)).toNat = 48 + m.natAbs % 10 := by omega
  refine ⟨_, ?_, (x1.app _), m.tdiv 10, UInt8.ofNat (48 + m.natAbs % 10) :: s, rfl, ⟨t0, t1⟩, ?_, ?_⟩
  · rw [tdiv_abs]; omega
  · rw [tdiv_abs, ← hs]
    by_cases hq : m.tdiv 10 = 0
    · have : m.natAbs < 10 := by
        have := tdiv_abs m
        rw [hq] at this
        have : m.natAbs / 10 = 0 := this.symm
        omega
      rw [if_pos hq, Lib.decDigits_one this, Nat.mod_eq_of_lt this]; rfl
    · have : ¬ m.natAbs < 10 := fun h => hq (by have := tdiv_abs m; omega)
      rw [if_neg hq, dec_step this, List.append_assoc]; rfl
  · rw [← e1]; simp [forget]
end
end Go.Lq

namespace Go.Lq
open Go
open Go.Proofs

def cutL (c : UInt8) : List UInt8 → List (List UInt8)
  | [] => [[]]
  | b :: r => if b = c then [] :: cutL c r else match cutL c r with | x :: xs => (b :: x) :: xs | [] => [[b]]
def cutFrom (c : UInt8) (pre r : List UInt8) : List (List UInt8) := match cutL c r with | x :: xs => (pre ++ x) :: xs | [] => [pre]
theorem cutL_ne (c : UInt8) (l : List UInt8) : ∃ x xs, cutL c l = x :: xs := by
  cases l with
  | nil => exact ⟨_, _, rfl⟩
  | cons b r =>
    unfold cutL
    split
    · exact ⟨_, _, rfl⟩
    · split <;> exact ⟨_, _, rfl⟩
theorem cutFrom_nil (c : UInt8) (l : List UInt8) : cutFrom c [] l = cutL c l := by
  obtain ⟨x, xs, e⟩ := cutL_ne c l
  unfold cutFrom; rw [e]; rfl
theorem cutFrom_end (c : UInt8) (pre : List UInt8) : cutFrom c pre [] = [pre] := by simp [cutFrom, cutL]
theorem cutFrom_hit (c : UInt8) (pre r : List UInt8) : cutFrom c pre (c :: r) = pre :: cutFrom c [] r := by
  rw [cutFrom_nil]
  simp [cutFrom, cutL]
theorem cutFrom_miss {c b : UInt8} (h : b ≠ c) (pre r : List UInt8) : cutFrom c pre (b :: r) = cutFrom c (pre ++ [b]) r := by
  obtain ⟨x, xs, e⟩ := cutL_ne c r
  unfold cutFrom
  rw [cutL, if_neg h, e]
  simp
theorem cutL_length (c : UInt8) (l : List UInt8) : (cutL c l).length ≤ l.length + 1 := by
  induction l with
  | nil => simp [cutL]
  | cons b r ih =>
    unfold cutL
    split
    · simp; omega
    · obtain ⟨x, xs, e⟩ := cutL_ne c r
      rw [e] at ih ⊢
      simp at ih ⊢; omega
theorem cutL_piece (c : UInt8) (l : List UInt8) : ∀ x ∈ cutL c l, x.length ≤ l.length := by
  induction l with
  | nil => simp [cutL]
  | cons b r ih =>
    unfold cutL
    split
    · intro x hx
      rcases List.mem_cons.1 hx with rfl | hx
      · simp
      · have := ih x hx; simp; omega
    · obtain ⟨y, ys, e⟩ := cutL_ne c r
      rw [e] at ih ⊢
      intro x hx
      rcases List.mem_cons.1 hx with rfl | hx
      · have := ih y (List.mem_cons_self ..); simp; omega
      · have := ih x (List.mem_cons_of_mem _ hx); simp; omega
section
variable {H : AHeap}
theorem cutR_c {l : List UInt8} {c : UInt8} (hl : l.length ≤ 1000000) : ACall Go.Proofs.Tryz.prog 44 [.string (bs l), .int .u8 (c.toNat : Nat)] H (TxtsRet H (cutL c l)) := by
  refine ACall.txts ?_
  (refine a44 ?_; simp only [n44, List.replicate, yq, yr, yt, yu]; first | refine q1 ?_ | refine q2 ?_ | refine q6 ?_ | refine q7 ?_ | refine qh rfl ?_ | skip)
  (refine yg ?_)
  refine awp_loop_n [true, true, false, false, false, true, true, true, false, false, false, false, false, false, false, false, false, false, false, false, false, false, false, false, false, false, false, false, false, false, false, false, false, false] l.length (fun i e H' => Ext H H' ∧ ∃ (out : List (List UInt8)) (f : Nat) (v : Value), OwnS H H' out v ∧ out.length ≤ i ∧ f ≤ i ∧ cutL c l = out ++ cutFrom c ((l.take i).drop f) (l.drop i) ∧
      e = [.string (bs l), .int .u8 (c.toNat : Nat), junk, junk, junk, v, .int .i64 (f : Nat), .int .i64 (i : Nat), junk, junk, junk, junk, junk, junk, junk, junk, junk, junk, junk, junk, junk, junk, junk, junk, junk, junk, junk, junk, junk, junk, junk, junk, junk, junk]) ?_ ?_
  · exact ⟨Ext.refl _, [], 0, .slice none 0 0, OwnS.nil _ _, by simp, by simp, by simp [cutFrom_nil], by simp [forget]⟩
  rintro i e H' hi ⟨x1, out, f, v, ho, hol, hf, hc, rfl⟩
  (refine yg ?_)
  refine cond_p rfl (fun hlt => ?_) (fun hge => ?_)
  rotate_left 1
  · obtain rfl : i = l.length := by omega
    rw [List.take_length, List.drop_length, cutFrom_end] at hc
    (repeat (first | refine yw ?_ | ((first | apply yd | apply ye); simp (disch := first|exact zz|fail) only [go_sem, ho.push]; with_reducible rfl)))
    refine fin_1 ⟨ho.ext x1 _, ?_⟩
    have := ho.pushed x1 (l.drop f)
    rw [hc]
    exact this
  have hi' : i < l.length := by omega
  have e1 : (i : Int) + 1 = ((i + 1 : Nat) : Int) := by omega
  have hat : at8 l (i : Nat) = ((l.getD i 0).toNat : Nat) := rfl
  rw [drop_getD (d := (0 : UInt8)) hi'] at hc
  by_cases hb : l.getD i 0 = c
  · have hb' : at8 l (i : Nat) = ((c.toNat : Nat) : Int) := by rw [hat, hb]
    rw [hb, cutFrom_hit] at hc
    (repeat (first | refine yw ?_ | ((first | apply yd | apply ye); simp (disch := first|exact zz|fail) only [go_sem, dec_t hb']; with_reducible rfl)))
    refine cond_t rfl ?_
    (repeat (first | refine yw ?_ | ((first | apply yd | apply ye); simp (disch := first|exact zz|fail) only [go_sem, ho.push, e1]; with_reducible rfl)))
    refine ⟨by omega, ho.ext x1 _, out ++ [(l.take i).drop f], i + 1, pushV H' out.length, ho.pushed x1 _, by simp; omega, by omega, ?_, by simp [forget]⟩
    rw [hc, show ((l.take (i + 1)).drop (i + 1)) = [] from List.drop_eq_nil_of_le (by simp; omega), List.append_assoc]
    rfl
  · have hb' : ¬ at8 l (i : Nat) = ((c.toNat : Nat) : Int) := by
      rw [hat]
      intro h
      exact hb (UInt8.toNat_inj.1 (by exact_mod_cast h))
    rw [cutFrom_miss hb] at hc
    (repeat (first | refine yw ?_ | ((first | apply yd | apply ye); simp (disch := first|exact zz|fail) only [go_sem, dec_f hb']; with_reducible rfl)))
    refine cond_f rfl ?_
    (repeat (first | refine yw ?_ | ((first | apply yd | apply ye); simp (disch := first|exact zz|fail) only [go_sem, e1]; with_reducible rfl)))
    refine ⟨by omega, x1, out, f, v, ho, by omega, by omega, ?_, by simp [forget]⟩
    rw [hc]
    congr 1
    rw [List.take_succ_eq_append_getElem hi', List.drop_append_of_le_length (by simp; omega)]
    simp [List.getD, hi']
end
end Go.Lq

namespace Go.Lq
open Go

def allD (l : List UInt8) : Prop := ∀ b ∈ l, 48 ≤ b.toNat ∧ b.toNat ≤ 57
def valF (acc : Nat) (l : List UInt8) : Nat := l.foldl (fun a b => 10 * a + (b.toNat - 48)) acc
theorem valF_cons (acc : Nat) (b : UInt8) (r : List UInt8) : valF acc (b :: r) = valF (10 * acc + (b.toNat - 48)) r := by unfold valF; rw [List.foldl_cons]
theorem valF_snoc (acc : Nat) (l : List UInt8) (b : UInt8) : valF acc (l ++ [b]) = 10 * valF acc l + (b.toNat - 48) := by simp [valF, List.foldl_append]
theorem valF_ge : ∀ (l : List UInt8) (acc : Nat), acc ≤ valF acc l
  | [], acc => Nat.le_refl _
  | b :: r, acc => by rw [valF_cons]; have := valF_ge r (10 * acc + (b.toNat - 48)); omega
theorem digV_all : ∀ (l : List UInt8) (acc : Nat), allD l → digV acc l = some (valF acc l : Nat)
  | [], acc, _ => rfl
  | b :: r, acc, h => by
    have hb := h b (List.mem_cons_self ..)
    rw [digV, if_neg (by omega), valF_cons, ← digV_all r _ fun x hx => h x (List.mem_cons_of_mem _ hx)]
    congr 1
    omega
theorem digV_some : ∀ (l : List UInt8) (acc n : Int), digV acc l = some n → allD l
  | [], _, _, _ => fun b h => by cases h
  | b :: r, acc, n, h => by
    rw [digV] at h
    split at h
    · cases h
    · rename_i hb
      intro x hx
      rcases List.mem_cons.1 hx with rfl | hx
      · omega
      · exact digV_some r _ n h x hx
theorem parse_all : ∀ (l : List UInt8) (acc : Nat), allD l → valF acc l < 9223372036854775808 → Lib.parseUint10 acc l = .ok (valF acc l)
  | [], acc, _, _ => rfl
  | b :: r, acc, h, hv => by
    have hb := h b (List.mem_cons_self ..)
    rw [valF_cons] at hv ⊢
    have hge := valF_ge r (10 * acc + (b.toNat - 48))
    rw [Lib.parseUint10, if_pos hb, if_neg (by omega), if_neg (by omega), Nat.mul_comm acc 10]
    exact parse_all r _ (fun x hx => h x (List.mem_cons_of_mem _ hx)) hv
theorem ofNat_toNat {k : Nat} (h : k < 256) : (UInt8.ofNat k).toNat = k := by
  rw [UInt8.toNat_ofNat']; omega
theorem dec_all (u : Nat) : allD (Lib.decDigits u) ∧ valF 0 (Lib.decDigits u) = u ∧ ∃ b r, Lib.decDigits u = b :: r ∧ (b.toNat = 48 → u = 0) := by
  induction u using Nat.strongRecOn with
  | ind u ih =>
    by_cases h : u < 10
    · rw [Lib.decDigits_one h]
      have e := ofNat_toNat (k := 48 + u) (by omega)
      refine ⟨fun b hb => ?_, ?_, _, _, rfl, ?_⟩
      · rw [List.mem_singleton.1 hb, e]; omega
      · show 10 * 0 + ((UInt8.ofNat (48 + u)).toNat - 48) = u
        rw [e]; omega
      · rw [e]; omega
    · rw [dec_step h]
      obtain ⟨h1, h2, b, r, h3, h4⟩ := ih (u / 10) (by omega)
      have hm := Nat.mod_lt u (show 0 < 10 by decide)
      have e := ofNat_toNat (k := 48 + u % 10) (by omega)
      refine ⟨fun x hx => ?_, ?_, b, r ++ [_], by rw [h3]; rfl, fun hb => by have := h4 hb; omega⟩
      · rcases List.mem_append.1 hx with hx | hx
        · exact h1 x hx
        · rw [List.mem_singleton.1 hx, e]; omega
      · rw [valF_snoc, h2, e]; omega
theorem snoc_ind {p : List UInt8 → Prop} (h0 : p []) (h1 : ∀ l b, p l → p (l ++ [b])) (l : List UInt8) : p l := by
  have : ∀ m : List UInt8, p m.reverse := fun m => by
    induction m with
    | nil => exact h0
    | cons b r ih => rw [List.reverse_cons]; exact h1 _ _ ih
  have := this l.reverse
  rwa [List.reverse_reverse] at this
theorem dec_val (l : List UInt8) : allD l → l ≠ [] → (at8 l 0 = 48 → l.length = 1) → Lib.decDigits (valF 0 l) = l := by
  induction l using snoc_ind with
  | h0 => intro _ h; exact absurd rfl h
  | h1 l b ih =>
    intro hall _ hz
    have hb := hall b (by simp)
    have hl : allD l := fun x hx => hall x (by simp [hx])
    have eb : UInt8.ofNat (48 + (b.toNat - 48)) = b := by
      apply UInt8.toNat_inj.1
      rw [ofNat_toNat (by omega)]; omega
    rw [valF_snoc]
    by_cases hn : l = []
    · subst hn
      show Lib.decDigits (10 * 0 + _) = _
      rw [Nat.mul_zero, Nat.zero_add, Lib.decDigits_one (by omega), eb]
      rfl
    · have hpos : 0 < l.length := List.length_pos_iff.2 hn
      have h0 : at8 (l ++ [b]) 0 = at8 l 0 := by
        unfold at8
        rw [show (0 : Int).toNat = 0 from rfl, getD_append_lt hpos]
      have hnz : at8 l 0 ≠ 48 := fun h => by
        have := hz (by rw [h0]; exact h)
        simp at this
        exact hn this
      have ihl := ih hl hn fun h => absurd h hnz
      have hv : valF 0 l ≠ 0 := fun h => by
        rw [h, Lib.decDigits_one (by decide)] at ihl
        apply hnz
        rw [← ihl]; rfl
      rw [dec_step (by omega), show (10 * valF 0 l + (b.toNat - 48)) / 10 = valF 0 l by omega, show (10 * valF 0 l + (b.toNat - 48)) % 10 = b.toNat - 48 by omega, ihl, eb]

theorem itoa_nat (u : Nat) : Lib.itoa (u : Int) = Lib.decDigits u := by unfold Lib.itoa; rw [if_neg (by omega), Int.toNat_natCast]
theorem atoi_dec {u : Nat} (h : u < 9223372036854775808) : Lib.atoiAll (Lib.decDigits u) = .ok (u : Int) := by
  obtain ⟨h1, h2, b, r, h3, _⟩ := dec_all u
  have hb := h1 b (by rw [h3]; simp)
  rw [h3, Lib.atoiAll_plain b r (by omega) (by omega), ← h3]
  unfold Lib.parseMag
  rw [if_neg (by rw [h3]; simp), parse_all _ _ h1 (by rw [h2]; exact h), h2]
  simp only [Lib.signless]
  rw [if_neg (by omega)]
theorem numR_iff {d n : Int} {l : List UInt8} (hd : d ≤ 18) : numR d l = some n ↔ (0 ≤ n ∧ Lib.itoa n = l ∧ (l.length : Int) ≤ d) := by
  constructor
  · intro h
    unfold numR at h
    split at h
    · rename_i m hm
      split at h
      · rename_i h45
        cases h
        have hs : signAt l = 0 := by unfold signAt; rw [if_neg (fun h => h45 h.2)]
        unfold numB at hm
        rw [hs] at hm
        split at hm
        · cases hm
        · rename_i hc
          have c1 : ¬ (l.length : Int) = 0 := fun h => hc (.inl h)
          have c2 : ¬ d < (l.length : Int) := fun h => hc (.inr (.inl (by simpa using h)))
          have c3 : ¬ (at8 l 0 = 48 ∧ 1 < (l.length : Int)) := fun h => hc (.inr (.inr h))
          have hm : digV 0 l = some n := by
            cases hv : digV 0 (l.drop 0) with
            | none => rw [hv] at hm; cases hm
            | some k =>
              rw [hv] at hm
              have : k = n := by simpa using hm
              rw [← this]; exact hv
          have hall := digV_some l 0 n hm
          have hv := digV_all l 0 hall
          have e : n = (valF 0 l : Nat) := by
            have : some n = some ((valF 0 l : Nat) : Int) := hm.symm.trans hv
            exact Option.some.inj this
          subst e
          refine ⟨by omega, ?_, by omega⟩
          rw [itoa_nat]
          exact dec_val l hall (fun h => c1 (by rw [h]; rfl)) fun h => by
            have : ¬ 1 < (l.length : Int) := fun h' => c3 ⟨h, h'⟩
            omega
      · cases h
    · cases h
  · rintro ⟨h0, h2, h3⟩
    obtain ⟨u, rfl⟩ : ∃ u : Nat, n = u := ⟨n.toNat, by omega⟩
    rw [itoa_nat] at h2
    obtain ⟨h4, h5, b, r, h6, h7⟩ := dec_all u
    rw [h2] at h4 h5 h6
    have hb := h4 b (by rw [h6]; simp)
    have a0 : at8 l 0 = ((b.toNat : Nat) : Int) := by rw [h6]; rfl
    have hs : signAt l = 0 := by unfold signAt; rw [if_neg (fun h => by have := h.2; omega)]
    have hB : numB d l = some (u : Int) := by
      unfold numB
      rw [hs]
      have hv := digV_all l 0 h4
      rw [h5] at hv
      have hv : digV 0 (l.drop 0) = some (u : Int) := hv
      rw [hv, if_neg]
      · rfl
      · rintro (h | h | ⟨h, h'⟩)
        · rw [h6] at h; simp at h; omega
        · have : d < (l.length : Int) := by simpa using h
          omega
        · have hb48 : b.toNat = 48 := by have : at8 l 0 = 48 := h; omega
          have := h7 hb48
          subst this
          rw [Lib.decDigits_one (by decide)] at h2
          rw [← h2] at h'
          simp at h'
    unfold numR
    rw [hB]
    simp only
    rw [if_pos (by omega)]
/-! ### A text cut -/
theorem index_eq (c : UInt8) (r : List UInt8) : Lib.index (c :: r) [c] = 0 := by simp [Lib.index, List.isPrefixOf]
theorem index_ne {b c : UInt8} (h : b ≠ c) (r : List UInt8) : Lib.index (b :: r) [c] = if Lib.index r [c] = -1 then -1 else Lib.index r [c] + 1 := by
  have : ([c].isPrefixOf (b :: r)) = false := by simp [List.isPrefixOf, h.symm]
  rw [Lib.index, this]
  simp
theorem cut_cutL (c : UInt8) (l : List UInt8) : cutL c l = if (Lib.cut l [c]).2.2 = true then (Lib.cut l [c]).1 :: cutL c (Lib.cut l [c]).2.1 else [l] := by
  induction l with
  | nil => simp [cutL, Lib.cut, Lib.index]
  | cons b r ih =>
    by_cases h : b = c
    · subst h
      rw [cutL, if_pos rfl]
      simp [Lib.cut, index_eq]
    · have hg := Lib.index_ge r [c]
      rw [cutL, if_neg h, ih]
      unfold Lib.cut
      rw [index_ne h]
      by_cases hm : Lib.index r [c] = -1
      · simp [hm]
      · have e1 : 0 ≤ Lib.index r [c] := by omega
        have e2 : 0 ≤ Lib.index r [c] + 1 := by omega
        have e3 : (Lib.index r [c] + 1).toNat = (Lib.index r [c]).toNat + 1 := by omega
        simp only [if_neg hm, if_pos e1, if_pos e2, if_true, e3]
        simp [Nat.add_right_comm]
def i64 (n : Int) : Prop := -9223372036854775808 ≤ n ∧ n ≤ 9223372036854775807
theorem Txts.of_cells {J : AHeap} {id c : Nat} {o : Bool} {e : Nat} {pl : List (List UInt8)} (h : J[id]? = some (.cells o e (strs pl))) : Txts J pl (.slice (some ⟨id, 0, none⟩) pl.length c) := by
  refine ⟨by simp [strs], .inr ⟨id, 0, c, rfl, fun _ => ?_⟩⟩
  unfold cellsAt
  rw [h]
  simp only [List.drop_zero, Nat.zero_add, Nat.mul_one, strs_length, Nat.le_refl, if_true]
  rw [List.take_of_length_le (by rw [strs_length]; exact Nat.le_refl _)]
end Go.Lq

namespace Go.Lq
open Go

def trimM (l : List UInt8) : List UInt8 := match l with | b :: r => if b = 45 then r else l | [] => []
theorem trimM_minus (r : List UInt8) : trimM (45 :: r) = r := by simp [trimM]
theorem trimM_plain {b : UInt8} (h : b ≠ 45) (r : List UInt8) : trimM (b :: r) = b :: r := by simp [trimM, h]
def numS (d : Int) (l : List UInt8) : Option Int := match Lib.atoiAll l with | .ok n => if Lib.itoa n = l ∧ ((trimM l).length : Int) ≤ d then some n else none | _ => none
theorem itoa_neg {u : Nat} (h : 0 < u) : Lib.itoa (-(u : Int)) = 45 :: Lib.decDigits u := by
  unfold Lib.itoa
  rw [if_pos (by omega), Int.natAbs_neg, Int.natAbs_natCast]
theorem parse_big : ∀ (l : List UInt8) (acc : Nat), allD l → valF acc l < 18446744073709551616 → Lib.parseUint10 acc l = .ok (valF acc l)
  | [], acc, _, _ => rfl
  | b :: r, acc, h, hv => by
    have hb := h b (List.mem_cons_self ..)
    rw [valF_cons] at hv ⊢
    have hge := valF_ge r (10 * acc + (b.toNat - 48))
    rw [Lib.parseUint10, if_pos hb, if_neg (by omega), if_neg (by omega), Nat.mul_comm acc 10]
    exact parse_big r _ (fun x hx => h x (List.mem_cons_of_mem _ hx)) hv
theorem atoi_itoa {n : Int} (h0 : -9223372036854775808 ≤ n) (h1 : n ≤ 9223372036854775807) : Lib.atoiAll (Lib.itoa n) = .ok n := by
  by_cases hn : 0 ≤ n
  · obtain ⟨u, rfl⟩ : ∃ u : Nat, n = u := ⟨n.toNat, by omega⟩
    rw [itoa_nat]; exact atoi_dec (by omega)
  · obtain ⟨u, rfl⟩ : ∃ u : Nat, n = -(u : Int) := ⟨n.natAbs, by omega⟩
    rw [itoa_neg (by omega), Lib.atoiAll_minus]
    obtain ⟨h2, h3, b, r, h4, _⟩ := dec_all u
    unfold Lib.parseMag
    rw [if_neg (by rw [h4]; simp), parse_big _ _ h2 (by rw [h3]; omega), h3]
    simp only [Lib.signed]
    rw [if_neg (by omega)]
theorem numS_iff {d n : Int} {l : List UInt8} : numS d l = some n ↔ (-9223372036854775808 ≤ n ∧ n ≤ 9223372036854775807 ∧ Lib.itoa n = l ∧ ((trimM l).length : Int) ≤ d) := by
  constructor
  · intro h
    unfold numS at h
    split at h
    · rename_i m hm
      split at h
      · rename_i hc
        cases h
        exact ⟨(Lib.atoiAll_bounds hm).1, (Lib.atoiAll_bounds hm).2, hc⟩
      · cases h
    · cases h
  · rintro ⟨h0, h1, h2, h3⟩
    have e : Lib.atoiAll l = .ok n := by rw [← h2]; exact atoi_itoa h0 h1
    unfold numS
    rw [e]
    simp [h2, h3]
theorem at8_cons (b : UInt8) (r : List UInt8) : at8 (b :: r) 0 = ((b.toNat : Nat) : Int) := rfl
theorem numB_iff {d n : Int} {l : List UInt8} (hd : d ≤ 18) : numB d l = some n ↔ (Lib.itoa n = l ∧ ((trimM l).length : Int) ≤ d) := by
  match l with
  | [] =>
    constructor
    · intro h; exact absurd (numB_pos h) (by simp)
    · rintro ⟨h, _⟩
      exfalso
      by_cases hn : 0 ≤ n
      · obtain ⟨u, rfl⟩ : ∃ u : Nat, n = u := ⟨n.toNat, by omega⟩
        obtain ⟨_, _, b, r, h4, _⟩ := dec_all u
        rw [itoa_nat, h4] at h; cases h
      · obtain ⟨u, rfl⟩ : ∃ u : Nat, n = -(u : Int) := ⟨n.natAbs, by omega⟩
        rw [itoa_neg (by omega)] at h; cases h
  | b :: r =>
    by_cases hb : b = 45
    · subst hb
      have hs : signAt (45 :: r) = 1 := by unfold signAt; rw [if_pos ⟨by simp, by rfl⟩]
      have ha1 : at8 (45 :: r) ((1 : Nat) : Int) = at8 r 0 := rfl
      have hN : numB d (45 :: r) = if r.length = 0 ∨ d < (r.length : Int) ∨ at8 r 0 = 48 ∧ 0 < r.length then none else (digV 0 r).map fun n => -n := by
        unfold numB
        rw [hs, ha1]
        have e1 : (((45 : UInt8) :: r).length : Int) = ((r.length : Nat) : Int) + 1 := by simp
        rw [e1]
        have hiff : (((r.length : Nat) : Int) + 1 = ((1 : Nat) : Int) ∨ d < ((r.length : Nat) : Int) + 1 - ((1 : Nat) : Int) ∨ at8 r 0 = 48 ∧ 1 < ((r.length : Nat) : Int) + 1) ↔ (r.length = 0 ∨ d < (r.length : Int) ∨ at8 r 0 = 48 ∧ 0 < r.length) := by
          constructor
          · intro h
            rcases h with h | h | ⟨h, h'⟩
            · left; omega
            · right; left; omega
            · right; right; exact ⟨h, by omega⟩
          · intro h
            rcases h with h | h | ⟨h, h'⟩
            · left; omega
            · right; left; omega
            · right; right; exact ⟨h, by omega⟩
        by_cases hc : r.length = 0 ∨ d < (r.length : Int) ∨ at8 r 0 = 48 ∧ 0 < r.length
        · rw [if_pos hc, if_pos (hiff.2 hc)]
        · rw [if_neg hc, if_neg fun h => hc (hiff.1 h)]
          simp
      rw [trimM_minus]
      constructor
      · intro h
        rw [hN] at h
        split at h
        · cases h
        · rename_i hc
          have hr : r ≠ [] := fun e => hc (.inl (by rw [e]; rfl))
          have hpos := List.length_pos_iff.2 hr
          cases hv : digV 0 r with
          | none => rw [hv] at h; cases h
          | some k =>
            rw [hv] at h
            obtain rfl : -k = n := by simpa using h
            have hall := digV_some r 0 k hv
            have hv2 := digV_all r 0 hall
            have e : k = (valF 0 r : Nat) := by
              have : some k = some ((valF 0 r : Nat) : Int) := hv.symm.trans hv2
              exact Option.some.inj this
            have hdv := dec_val r hall hr fun h48 => absurd (⟨h48, hpos⟩ : at8 r 0 = 48 ∧ 0 < r.length) (fun h => hc (.inr (.inr h)))
            have h0 : 0 < valF 0 r := by
              rcases Nat.eq_zero_or_pos (valF 0 r) with h0 | h0
              · exfalso
                rw [h0, Lib.decDigits_one (by decide)] at hdv
                apply hc; right; right
                rw [← hdv]; exact ⟨rfl, by simp⟩
              · exact h0
            rw [e, itoa_neg h0, hdv]
            exact ⟨rfl, by omega⟩
      · rintro ⟨h1, h2⟩
        by_cases hn : 0 ≤ n
        · obtain ⟨u, rfl⟩ : ∃ u : Nat, n = u := ⟨n.toNat, by omega⟩
          obtain ⟨h3, _, b, r', h4, _⟩ := dec_all u
          rw [itoa_nat] at h1
          have := h3 45 (by rw [h1]; simp)
          have e45 : (45 : UInt8).toNat = 45 := rfl
          omega
        · obtain ⟨u, rfl⟩ : ∃ u : Nat, n = -(u : Int) := ⟨n.natAbs, by omega⟩
          rw [itoa_neg (by omega)] at h1
          have h1 : Lib.decDigits u = r := by simpa using h1
          obtain ⟨h3, h4, c, r', h5, h6⟩ := dec_all u
          rw [h1] at h3 h4 h5
          have hv := digV_all r 0 h3
          rw [h4] at hv
          rw [hN, if_neg]
          · have hv : digV 0 r = some (u : Int) := hv
            rw [hv]; rfl
          · rintro (h | h | ⟨h, h'⟩)
            · rw [h5] at h; simp at h
            · omega
            · rw [h5, at8_cons] at h
              have := h6 (by omega)
              omega
    · have h45 : b.toNat ≠ 45 := fun e => hb (UInt8.toNat_inj.1 e)
      have hR : numR d (b :: r) = numB d (b :: r) := by
        unfold numR
        cases numB d (b :: r) with
        | none => rfl
        | some m => simp only; rw [if_pos (by rw [at8_cons]; omega)]
      rw [← hR, numR_iff hd, trimM_plain hb]
      constructor
      · rintro ⟨_, h⟩; exact h
      · rintro ⟨h1, h2⟩
        refine ⟨?_, h1, h2⟩
        by_cases hn : 0 ≤ n
        · exact hn
        · exfalso
          obtain ⟨u, rfl⟩ : ∃ u : Nat, n = -(u : Int) := ⟨n.natAbs, by omega⟩
          rw [itoa_neg (by omega)] at h1
          exact hb (List.cons.inj h1).1.symm
theorem numSB {d : Int} {l : List UInt8} (hd : d ≤ 18) : numS d l = numB d l := by
  apply Option.ext
  intro n
  rw [numS_iff, numB_iff hd]
  constructor
  · rintro ⟨_, _, h2, h3⟩; exact ⟨h2, h3⟩
  · rintro ⟨h2, h3⟩
    have hb : ∀ u : Nat, (Lib.decDigits u).length ≤ 18 → u < 1000000000000000000 := fun u hu => by
      have hlt := Lib.lt_pow_nDigits u
      rw [← Lib.decDigits_length] at hlt
      have : (10 : Nat) ^ (Lib.decDigits u).length ≤ 10 ^ 18 := Nat.pow_le_pow_right (by decide) hu
      have h18 : (10 : Nat) ^ 18 = 1000000000000000000 := by decide
      omega
    by_cases hn : 0 ≤ n
    · obtain ⟨u, rfl⟩ : ∃ u : Nat, n = u := ⟨n.toNat, by omega⟩
      have h2' := h2
      rw [itoa_nat] at h2'
      obtain ⟨h4, _, b, r, h6, _⟩ := dec_all u
      have hb45 : b ≠ 45 := fun e => by
        have := h4 b (by rw [h6]; simp)
        rw [e] at this
        have e45 : (45 : UInt8).toNat = 45 := rfl
        omega
      have ht : trimM l = Lib.decDigits u := by rw [← h2', h6, trimM_plain hb45]
      have := hb u (by rw [← ht]; omega)
      exact ⟨by omega, by omega, h2, h3⟩
    · obtain ⟨u, rfl⟩ : ∃ u : Nat, n = -(u : Int) := ⟨n.natAbs, by omega⟩
      have h2' := h2
      rw [itoa_neg (by omega)] at h2'
      have ht : trimM l = Lib.decDigits u := by rw [← h2', trimM_minus]
      have := hb u (by rw [← ht]; omega)
      exact ⟨by omega, by omega, h2, h3⟩
end Go.Lq

namespace Go.Lq
open Go
open Go.Proofs

theorem cutL_none {c : UInt8} {a : List UInt8} (h : c ∉ a) : cutL c a = [a] := by
  induction a with
  | nil => rfl
  | cons b r ih =>
    have hb : b ≠ c := fun e => h (by rw [e]; exact List.mem_cons_self ..)
    have hr : c ∉ r := fun e => h (List.mem_cons_of_mem _ e)
    rw [cutL, if_neg hb, ih hr]
theorem cutL_join {c : UInt8} {a : List UInt8} (h : c ∉ a) (r : List UInt8) : cutL c (a ++ c :: r) = a :: cutL c r := by
  induction a with
  | nil => show cutL c (c :: r) = _; rw [cutL, if_pos rfl]
  | cons b s ih =>
    have hb : b ≠ c := fun e => h (by rw [e]; exact List.mem_cons_self ..)
    have hs : c ∉ s := fun e => h (List.mem_cons_of_mem _ e)
    show cutL c (b :: (s ++ c :: r)) = _
    rw [cutL, if_neg hb, ih hs]
theorem itoa_digits {n : Int} (h : 0 ≤ n) {c : UInt8} (hc : c.toNat < 48) : c ∉ Lib.itoa n := fun hm => by
  obtain ⟨u, rfl⟩ : ∃ u : Nat, n = u := ⟨n.toNat, by omega⟩
  rw [itoa_nat] at hm
  have := (dec_all u).1 c hm
  omega
theorem nDigits_le : ∀ (k u : Nat), 1 ≤ k → u < 10 ^ k → Lib.nDigits u ≤ k
  | 0, u, h, _ => by omega
  | k + 1, u, _, h => by
    by_cases hu : u < 10
    · rw [Lib.nDigits_small hu]; omega
    · rw [Lib.nDigits_big hu]
      have hk : 1 ≤ k := by
        rcases Nat.eq_zero_or_pos k with rfl | hk
        · simp at h; omega
        · exact hk
      have := nDigits_le k (u / 10) hk (by rw [Nat.pow_succ] at h; omega)
      omega
end Go.Lq

namespace Go.Lq
open Go

def wordsT (l : List Int) : List (List UInt8) := l.map Lib.itoa
def pathT (l : List Int) : List UInt8 := Lib.join (wordsT l) [32]
def InW (l : List Int) : Prop := ∀ n ∈ l, i64 n
theorem itoa_len {n : Int} (h : i64 n) : (Lib.itoa n).length ≤ 21 := Lib.itoa_length_le n h.1 h.2
theorem pathTail_length {l : List Int} (h : InW l) : (Lib.joinTail [32] (wordsT l)).length ≤ 22 * l.length := by
  induction l with
  | nil => simp [wordsT, Lib.joinTail]
  | cons p r ih =>
    have hp := itoa_len (h p (List.mem_cons_self ..))
    have hr := ih fun q hq => h q (List.mem_cons_of_mem _ hq)
    have e : Lib.joinTail [32] (wordsT (p :: r)) = [32] ++ Lib.itoa p ++ Lib.joinTail [32] (wordsT r) := by simp [Lib.joinTail, wordsT]
    rw [e]
    simp only [List.length_append, List.length_cons, List.length_nil]
    omega
theorem pathT_length {l : List Int} (h : InW l) : (pathT l).length ≤ 22 * l.length := by
  cases l with
  | nil => simp [pathT, wordsT, Lib.join_nil]
  | cons p r =>
    have hp := itoa_len (h p (List.mem_cons_self ..))
    have hr := pathTail_length (l := r) fun q hq => h q (List.mem_cons_of_mem _ hq)
    have e : pathT (p :: r) = Lib.itoa p ++ Lib.joinTail [32] (wordsT r) := by
      unfold pathT
      show Lib.join (Lib.itoa p :: wordsT r) [32] = _
      rw [Lib.join_cons]
    rw [e]
    simp only [List.length_append, List.length_cons]
    omega
theorem InW.take {l : List Int} (h : InW l) (i : Nat) : InW (l.take i) := fun p hp => h p (List.mem_of_mem_take hp)
theorem InW.get {l : List Int} (h : InW l) {i : Nat} (hi : i < l.length) : i64 (l.getD i 0) := by
  have : l.getD i 0 ∈ l := by rw [List.getD_eq_getElem?_getD, List.getElem?_eq_getElem hi]; exact List.getElem_mem _
  exact h _ this
theorem wordsT_take {l : List Int} {i : Nat} (hi : i < l.length) : wordsT (l.take (i + 1)) = wordsT (l.take i) ++ [Lib.itoa (l.getD i 0)] := by
  unfold wordsT
  rw [List.take_succ_eq_append_getElem hi, List.map_append]
  simp [List.getD, hi]
theorem pathT_snoc {l : List Int} {i : Nat} (hi : i < l.length) : pathT (l.take (i + 1)) = pathT (l.take i) ++ (if 0 < i then [32] else []) ++ Lib.itoa (l.getD i 0) := by
  unfold pathT
  rw [wordsT_take hi]
  cases i with
  | zero => simp [wordsT, Lib.join_nil, Lib.join_one]
  | succ k =>
    have hne : ∃ p r, l.take (k + 1) = p :: r := by
      match l, hi with
      | p :: r, _ => exact ⟨p, r.take k, rfl⟩
    obtain ⟨p, r, e⟩ := hne
    rw [e]
    show Lib.join (Lib.itoa p :: (wordsT r ++ [_])) [32] = Lib.join (Lib.itoa p :: wordsT r) [32] ++ _ ++ _
    rw [Lib.join_cons, Lib.join_cons]
    simp [Lib.joinTail, List.append_assoc]
theorem itoa_blank (n : Int) {c : UInt8} (hc : c.toNat < 45) : c ∉ Lib.itoa n := by
  by_cases hn : 0 ≤ n
  · exact itoa_digits hn (by omega)
  · obtain ⟨u, rfl⟩ : ∃ u : Nat, n = -(u : Int) := ⟨n.natAbs, by omega⟩
    rw [itoa_neg (by omega)]
    intro h
    rcases List.mem_cons.1 h with rfl | h
    · exact absurd hc (by decide)
    · have := (dec_all u).1 c h; omega
theorem cut_path : ∀ (l : List Int), l ≠ [] → cutL 32 (pathT l) = wordsT l
  | [], h => absurd rfl h
  | [p], _ => by
    show cutL 32 (Lib.join [Lib.itoa p] [32]) = [Lib.itoa p]
    rw [Lib.join_one, cutL_none (itoa_blank p (by decide))]
  | p :: q :: r, _ => by
    have ih := cut_path (q :: r) (by simp)
    have e : pathT (p :: q :: r) = Lib.itoa p ++ 32 :: pathT (q :: r) := by
      unfold pathT
      show Lib.join (Lib.itoa p :: Lib.itoa q :: wordsT r) [32] = _ ++ 32 :: Lib.join (Lib.itoa q :: wordsT r) [32]
      rw [Lib.join_cons, Lib.join_cons]
      simp [Lib.joinTail]
    rw [e, cutL_join (itoa_blank p (by decide)), ih]
    rfl
def numsS (d : Int) : List (List UInt8) → Option (List Int)
  | [] => some []
  | w :: ws => match numS d w with | some n => (numsS d ws).map (n :: ·) | none => none
theorem numsS_cons {d : Int} {w : List UInt8} {ws : List (List UInt8)} {n : Int} (h : numS d w = some n) : numsS d (w :: ws) = (numsS d ws).map (n :: ·) := by
  rw [numsS, h]
  first | done | rfl
theorem numsS_none {d : Int} {w : List UInt8} {ws : List (List UInt8)} (h : numS d w = none) : numsS d (w :: ws) = none := by
  rw [numsS, h]
  first | done | rfl
theorem trimM_itoa_le {n : Int} {k : Nat} (hk : 1 ≤ k) (h0 : -(10 ^ k : Nat) < n) (h1 : n < (10 ^ k : Nat)) : (trimM (Lib.itoa n)).length ≤ k := by
  by_cases hn : 0 ≤ n
  · obtain ⟨u, rfl⟩ : ∃ u : Nat, n = u := ⟨n.toNat, by omega⟩
    obtain ⟨h4, _, b, r, h6, _⟩ := dec_all u
    have hb45 : b ≠ 45 := fun e => by
      have := h4 b (by rw [h6]; simp)
      rw [e] at this
      have e45 : (45 : UInt8).toNat = 45 := rfl
      omega
    rw [itoa_nat, h6, trimM_plain hb45, ← h6, Lib.decDigits_length]
    exact nDigits_le k u hk (by exact_mod_cast h1)
  · obtain ⟨u, rfl⟩ : ∃ u : Nat, n = -(u : Int) := ⟨n.natAbs, by omega⟩
    rw [itoa_neg (by omega), trimM_minus, Lib.decDigits_length]
    exact nDigits_le k u hk (by omega)
theorem numS_itoa {d k : Nat} {n : Int} (hk : 1 ≤ k) (hkd : k ≤ d) (h0 : -(10 ^ k : Nat) < n) (h1 : n < (10 ^ k : Nat)) (h2 : i64 n) : numS d (Lib.itoa n) = some n := by
  rw [numS_iff]
  have := trimM_itoa_le hk h0 h1
  exact ⟨h2.1, h2.2, rfl, by omega⟩
theorem nums_back {d k : Nat} (hk : 1 ≤ k) (hkd : k ≤ d) : ∀ (l : List Int), (∀ n ∈ l, -((10 ^ k : Nat) : Int) < n ∧ n < ((10 ^ k : Nat) : Int) ∧ i64 n) → numsS d (wordsT l) = some l
  | [], _ => rfl
  | p :: r, h => by
    have hp := h p (by simp)
    show numsS d (Lib.itoa p :: wordsT r) = _
    rw [numsS_cons (numS_itoa hk hkd hp.1 hp.2.1 hp.2.2), nums_back hk hkd r fun x hx => h x (List.mem_cons_of_mem _ hx)]
    rfl
end Go.Lq

namespace Go.Lq
open Go
open Go.Proofs

section
variable {H : AHeap} {l : List Int} {v : Value}
theorem trimM_eq (l : List UInt8) : Lib.trimPrefix l [45] = trimM l := by
  match l with
  | [] => rfl
  | b :: r =>
    unfold Lib.trimPrefix Lib.hasPrefix
    by_cases hb : b = 45
    · subst hb; simp [trimM, List.isPrefixOf]
    · rw [trimM_plain hb, if_neg]
      simp [List.isPrefixOf]
      exact fun h => hb h.symm
theorem trim_c {l : List UInt8} : ACall Go.Proofs.Tryz.prog 42 [.string (bs l), .string (bs [45])] H fun v H' => v = .string (bs (trimM l)) ∧ H' = H := by
  refine ACall.of_calls ⟨_, Go.Proofs.Tryz.func42, by kernel_rfl, by kernel_rfl⟩ fun base β w cargs hi hv => ?_
  obtain ⟨y, y', e, h, h'⟩ := VRs.two hv
  obtain rfl := h.str
  obtain rfl := h'.str
  rw [cargs2 e]
  refine (Go.Proofs.Tryz.strings_TrimPrefix (bs l) (bs [45]) w).mono fun e' w' ⟨he, hw⟩ => ?_
  subst hw
  rw [bs_data, bs_data, trimM_eq, bs_mk] at he
  exact ⟨_, _, he, .string _, ⟨rfl, rfl⟩, RowKit.Below.refl _ _⟩

set_option maxHeartbeats 1000000 in
theorem formatPath_c (hs : StrH H) (hl : Ints H l v) (hn : l.length ≤ 100000) (hb : InW l) : ACall Go.Proofs.Tryz.prog 7 [v] H fun w H' => w = .string (bs (pathT l)) ∧ H' = H := by
  refine ACall.drop (.string _) ?_
  (refine a7 ?_; simp only [n7, List.replicate, List.length_cons, List.length_nil, List.cons_append, List.nil_append]; first | refine Go.Lq.q1 ?_ | refine Go.Lq.q2 ?_ | refine Go.Lq.q6 ?_ | refine Go.Lq.q7 ?_ | refine Go.Lq.qh rfl ?_ | skip)
  (repeat (first | refine yw ?_ | ((first | apply yd | apply ye); simp (disch := first|exact zz|fail) only [go_sem, hl.len, hl.idx, hl.load]; with_reducible rfl)))
  refine awp_loop_n [false, false, false, true, false, false, true, true, true, false, false, false, false, false, false, false, false, false, false, false] l.length (fun i e H' => ∃ w, e = [junk, junk, junk, w, junk, junk, v, .int .i64 (l.length : Nat), .int .i64 (i : Nat), junk, junk, junk, junk, junk, junk, junk, junk, junk, junk, junk] ∧ Ext H H' ∧ OwnS H H' (wordsT (l.take i)) w) ?_ ?_
  · exact ⟨.slice none 0 0, by simp [forget], Ext.refl _, by simp only [List.take_zero]; exact OwnS.nil _ _⟩
  rintro i e H' hi ⟨w, rfl, x1, ho⟩
  have hli := hl.ext x1
  (refine yg ?_)
  refine cond_p rfl (fun hlt => ?_) (fun hge => ?_)
  rotate_left 1
  · obtain rfl : i = l.length := by omega
    rw [List.take_length] at ho
    (refine yg ?_)
    have hml := pathT_length hb
    (refine aops_call_to (join_c (ll := wordsT l) (m := [32]) ho.txts (by simp [wordsT]; omega) (by show (pathT l).length ≤ _; omega)) ?_)
    (refine yg ?_)
    exact fin_1 ⟨rfl, x1⟩
  have hi' : i < l.length := by omega
  have e1 : (i : Int) + 1 = ((i + 1 : Nat) : Int) := by omega
  obtain ⟨b1, b2⟩ := hb.get hi'
  obtain ⟨p, hp⟩ : ∃ p, p = l.getD i 0 := ⟨_, rfl⟩
  rw [← hp] at b1 b2
  have q1' := Lib.itoa_length_le _ b1 b2
  have hsn : StrH H' := hs.ext x1
  (repeat (first | refine yw ?_ | ((first | apply yd | apply ye); simp (disch := first|exact zz|fail) only [go_sem, hli.len, hli.idx, hli.load, ← hp]; with_reducible rfl)))
  (refine aops_call_to (itoa_c hsn b1 b2) ?_)
  have hlen : (wordsT (l.take i)).length = i := by simp [wordsT]; omega
  (repeat (first | refine yw ?_ | ((first | apply yd | apply ye); simp (disch := first|exact zz|fail) only [go_sem, ho.push, e1]; with_reducible rfl)))
  refine ⟨by omega, pushV H' (wordsT (l.take i)).length, by simp [forget], ho.ext x1 _, ?_⟩
  rw [wordsT_take hi', ← hp]
  exact ho.pushed x1 (Lib.itoa p)
set_option maxHeartbeats 1000000 in
theorem rFormatPath_c (hl : Ints H l v) (hn : l.length ≤ 100000) (hb : InW l) : ACall Go.Proofs.Tryz.prog 11 [v] H fun w H' => w = .string (bs (pathT l)) ∧ H' = H := by
  refine ACall.drop (.string _) ?_
  (refine a11 ?_; simp only [n11, List.replicate, List.length_cons, List.length_nil, List.cons_append, List.nil_append]; first | refine Go.Lq.q1 ?_ | refine Go.Lq.q2 ?_ | refine Go.Lq.q6 ?_ | refine Go.Lq.q7 ?_ | refine Go.Lq.qh rfl ?_ | skip)
  (refine yg ?_)
  refine awp_loop_n [true, false, false, true, true, false, false, false, false, false, false, false, false, false, false, false, false, false, false, false, false, false, false] l.length (fun i e H' => H' = H ∧ e = [v, junk, junk, .string (bs (pathT (l.take i))), .int .i64 (i : Nat), junk, junk, junk, junk, junk, junk, junk, junk, junk, junk, junk, junk, junk, junk, junk, junk, junk, junk]) ?_ ?_
  · exact ⟨rfl, by simp [forget, pathT, wordsT, Lib.join_nil]⟩
  rintro i e H' hi ⟨rfl, rfl⟩
  (repeat (first | refine yw ?_ | ((first | apply yd | apply ye); simp (disch := first|exact zz|fail) only [go_sem, hl.len, hl.idx, hl.load]; with_reducible rfl)))
  refine cond_p rfl (fun hlt => ?_) (fun hge => ?_)
  rotate_left 1
  · obtain rfl : i = l.length := by omega
    rw [List.take_length]
    (refine yg ?_)
    exact fin_1 ⟨rfl, ⟨[], (List.append_nil _).symm⟩⟩
  have hi' : i < l.length := by omega
  have e1 : (i : Int) + 1 = ((i + 1 : Nat) : Int) := by omega
  obtain ⟨b1, b2⟩ := hb.get hi'
  have hml := pathT_length (hb.take i)
  rw [List.length_take] at hml
  have hml : (pathT (l.take i)).length ≤ 2200000 := by omega
  have hsn := pathT_snoc hi'
  obtain ⟨p, hp⟩ : ∃ p, p = l.getD i 0 := ⟨_, rfl⟩
  rw [← hp] at b1 b2 hsn
  have q1' := Lib.itoa_length_le _ b1 b2
  (refine yx ?_; (first | apply aops_all | apply adraw_all); simp (disch := first|exact zz|fail) only [go_sem]; with_reducible rfl)
  refine awp_mid [true, false, false, true, true, false, false, false, false, false, false, false, false, false, false, false, false, false, false, false, false, false, false] (fun e J => J = H' ∧ e = [v, junk, junk, .string (bs (pathT (l.take i) ++ (if 0 < i then [32] else []))), .int .i64 (i : Nat), junk, junk, junk, junk, junk, junk, junk, junk, junk, junk, junk, junk, junk, junk, junk, junk, junk, junk]) ?_ ?_
  · refine cond_p rfl (fun h0 => ?_) (fun h0 => ?_)
    · have h0' : 0 < i := by omega
      (refine yg ?_)
      exact ⟨rfl, rfl, by simp [forget, h0']⟩
    · have h0' : ¬ 0 < i := by omega
      (refine yg ?_)
      exact ⟨rfl, rfl, by simp [forget, h0']⟩
  rintro e J ⟨rfl, rfl⟩
  obtain ⟨pre, hpre⟩ : ∃ pre : List UInt8, pre = pathT (l.take i) ++ (if 0 < i then [32] else []) := ⟨_, rfl⟩
  have hpl : pre.length ≤ 2200001 := by
    rw [hpre, List.length_append]
    split <;> simp <;> omega
  rw [← hpre] at hsn ⊢
  (repeat (first | refine yw ?_ | ((first | apply yd | apply ye); simp (disch := first|exact zz|fail) only [go_sem, hl.len, hl.idx, hl.load, ← hp]; with_reducible rfl)))
  (refine aops_call_to (decimal_c b1 b2) ?_)
  (repeat (first | refine yw ?_ | ((first | apply yd | apply ye); simp (disch := first|exact zz|fail) only [go_sem, List.length_append, e1]; with_reducible rfl)))
  refine ⟨by omega, rfl, ?_⟩
  rw [hsn]
  simp [forget]
end
end Go.Lq

namespace Go.Lq
open Go
open Go.Proofs

def parsePathL (l : List UInt8) : List Int × Int :=
  if (60000 : Int) < (l.length : Int) then ([], 8) else if l = [] then ([], 0) else
  match numsS 7 (cutL 32 l) with
  | none => ([], 7)
  | some ns => if positionsErrL ns = 0 then (ns, 0) else ([], positionsErrL ns)
theorem parse_path {l : List Int} (h : positionsErrL l = 0) : parsePathL (pathT l) = (l, 0) := by
  obtain ⟨hs, hn⟩ := sized_pos h
  have hm : ∀ n ∈ l, -1000000 ≤ n ∧ n ≤ 1000000 := fun n hn => by
    obtain ⟨i, hi, e⟩ := List.getElem_of_mem hn
    have := hs i
    rw [List.getD_eq_getElem?_getD, List.getElem?_eq_getElem hi, e] at this
    exact this
  have hw : InW l := fun n hn => by have := hm n hn; exact ⟨by omega, by omega⟩
  have hlen := pathT_length hw
  unfold parsePathL
  rw [if_neg (by omega)]
  cases l with
  | nil => rw [if_pos (by rfl)]
  | cons a r =>
    have hne : pathT (a :: r) ≠ [] := fun e => by
      have h1 := cut_path (a :: r) (by simp)
      rw [e] at h1
      have h2 : cutL 32 [] = [[]] := rfl
      rw [h2] at h1
      have h3 : Lib.itoa a = [] := by simpa [wordsT] using (List.cons.inj h1).1.symm
      have h4 := numS_itoa (d := 7) (k := 7) (by decide) (by decide) (n := a) (by have := hm a (by simp); have : ((10 ^ 7 : Nat) : Int) = 10000000 := by decide
                                                                                  omega) (by have := hm a (by simp); have : ((10 ^ 7 : Nat) : Int) = 10000000 := by decide
                                                                                             omega) (hw a (by simp))
      rw [h3] at h4
      cases h4
    rw [if_neg hne, cut_path _ (by simp), show (7 : Int) = ((7 : Nat) : Int) from rfl, nums_back (k := 7) (by decide) (by decide) _ fun n hn => by
      have h7 : ((10 ^ 7 : Nat) : Int) = 10000000 := by decide
      have := hm n hn
      exact ⟨by omega, by omega, hw n hn⟩]
    show (if positionsErrL (a :: r) = 0 then (a :: r, 0) else _) = _
    rw [if_pos h]
theorem OwnI.lt {H0 H1 H : AHeap} {l : List Int} {v : Value} (h : OwnI H0 H l v) (hx : H1.length ≤ H0.length) : OwnI H1 H l v := Own.weaken h hx
section
variable {H : AHeap}
theorem cutB_c {l : List UInt8} (hl : l.length ≤ 1000000) : ACall Go.Proofs.Tryz.prog 44 [.string (bs l), .int .u8 32] H fun v H' =>
    v = .slice (some ⟨H.length, 0, none⟩) (cutL 32 l).length (cutL 32 l).length ∧ H' = H ++ [.cells true 1 (strs (cutL 32 l))] :=
  (cutR_c (c := 32) hl).mono fun v H' ⟨h1, h2⟩ => by
    obtain ⟨x, xs, e⟩ := cutL_ne 32 l
    have : (cutL 32 l).length ≠ 0 := by rw [e]; simp
    rw [h1, h2]
    unfold retV retN
    rw [if_neg this, if_neg this]
    exact ⟨rfl, rfl⟩
set_option maxHeartbeats 4000000 in
theorem rParsePath_c {l : List UInt8} (hl : l.length ≤ 100000) : ACall Go.Proofs.Tryz.prog 10 [.string (bs l)] H (IntsRes H (parsePathL l).1 (parsePathL l).2) := by
  refine ACall.intsE ?_
  (refine a10 ?_; simp only [n10, List.replicate, List.length_cons, List.length_nil, List.cons_append, List.nil_append]; first | refine Go.Lq.q1 ?_ | refine Go.Lq.q2 ?_ | refine Go.Lq.q6 ?_ | refine Go.Lq.q7 ?_ | refine Go.Lq.qh rfl ?_ | skip)
  by_cases h6 : (60000 : Int) < (l.length : Int)
  · have hp : parsePathL l = ([], 8) := by unfold parsePathL; rw [if_pos h6]
    rw [hp]
    (repeat (first | refine yw ?_ | ((first | apply yd | apply ye); simp (disch := first|exact zz|fail) only [go_sem, dec_t h6]; with_reducible rfl)))
    refine cond_t rfl ?_
    (refine yg ?_)
    exact fin_2 ⟨_, rfl, Ext.refl _, OwnI.nil _ _⟩
  (repeat (first | refine yw ?_ | ((first | apply yd | apply ye); simp (disch := first|exact zz|fail) only [go_sem, dec_f h6]; with_reducible rfl)))
  refine cond_f rfl ?_
  by_cases h0 : l = []
  · have hp : parsePathL l = ([], 0) := by unfold parsePathL; rw [if_neg h6, if_pos h0]
    rw [hp]
    (repeat (first | refine yw ?_ | ((first | apply yd | apply ye); simp (disch := first|exact zz|fail) only [go_sem, dec_t h0]; with_reducible rfl)))
    refine cond_t rfl ?_
    (refine yg ?_)
    exact fin_2 ⟨_, rfl, Ext.refl _, OwnI.nil _ _⟩
  have hp : parsePathL l = match numsS 7 (cutL 32 l) with
    | none => ([], 7)
    | some ns => if positionsErrL ns = 0 then (ns, 0) else ([], positionsErrL ns) := by unfold parsePathL; rw [if_neg h6, if_neg h0]
  (repeat (first | refine yw ?_ | ((first | apply yd | apply ye); simp (disch := first|exact zz|fail) only [go_sem, dec_f h0]; with_reducible rfl)))
  refine cond_f rfl ?_
  (refine yg ?_)
  refine aops_call_to (cutB_c (by omega)) ?_
  obtain ⟨pl, hpl⟩ : ∃ pl, pl = cutL 32 l := ⟨_, rfl⟩
  rw [← hpl]
  have hpm : ∀ x ∈ pl, x.length ≤ 100000 := fun x hx => by have := cutL_piece 32 l x (by rw [← hpl]; exact hx); omega
  have hpn : pl.length ≤ 100001 := by have := cutL_length 32 l; rw [← hpl] at this; omega
  have hJ : (H ++ [AObj.cells true 1 (strs pl)])[H.length]? = some (.cells true 1 (strs pl)) := at_new
  have xJ : Ext H (H ++ [AObj.cells true 1 (strs pl)]) := (Ext.refl H).app _
  have hJl : H.length ≤ (H ++ [AObj.cells true 1 (strs pl)]).length := by simp
  generalize (H ++ [AObj.cells true 1 (strs pl)] : AHeap) = G at hJ xJ hJl
  have t0 : Txts G pl (.slice (some ⟨H.length, 0, none⟩) pl.length pl.length) := Txts.of_cells hJ
  generalize (Value.slice (some ⟨H.length, 0, none⟩) pl.length pl.length) = sv at t0
  (refine yg ?_)
  refine awp_loop_n [false, false, true, true, true, true, true, false, false, false, false, false, false, false, false, false, false, false, false, false, false, false, false, false, false, false, false, false, false, false, false, false, false, false, false, false, false, false, false, false, false, false, false] pl.length (fun i e H' => ∃ ns v, e = [junk, junk, .slice none 0 0, .int .i64 0, v, sv, .int .i64 (i : Nat), junk, junk, junk, junk, junk, junk, junk, junk, junk, junk, junk, junk, junk, junk, junk, junk, junk, junk, junk, junk, junk, junk, junk, junk, junk, junk, junk, junk, junk, junk, junk, junk, junk, junk, junk, junk] ∧ numsS 7 pl = (numsS 7 (pl.drop i)).map (ns ++ ·) ∧ ns.length ≤ i ∧
      Ext G H' ∧ OwnI G H' ns v) ?_ ?_
  · refine ⟨[], .slice none 0 0, by simp [forget], ?_, Nat.le_refl _, Ext.refl _, OwnI.nil _ _⟩
    rw [List.drop_zero]; cases numsS 7 pl <;> simp
  rintro i e H' hi ⟨ns, v, rfl, h2, h4, x1, ho⟩
  have t1 := t0.ext x1
  have x2 : Ext H H' := xJ.trans x1
  (repeat (first | refine yw ?_ | ((first | apply yd | apply ye); simp (disch := first|exact zz|fail) only [go_sem, t1.len, t1.idx, t1.load]; with_reducible rfl)))
  refine cond_p rfl (fun hlt => ?_) (fun hge => ?_)
  rotate_left 1
  · obtain rfl : i = pl.length := by omega
    rw [List.drop_length] at h2
    have hns : numsS 7 (cutL 32 l) = some ns := by rw [← hpl, h2]; show some (ns ++ []) = _; rw [List.append_nil]
    rw [hns] at hp
    have hp : parsePathL l = if positionsErrL ns = 0 then (ns, 0) else ([], positionsErrL ns) := hp
    have h9 : OwnI H H' ns v := ho.lt hJl
    (refine yg ?_)
    (refine aops_call_to (refPositionsErr_c h9.ints (by omega)) ?_)
    by_cases he : positionsErrL ns = 0
    · rw [if_pos he] at hp
      rw [hp, he]
      (refine yg ?_)
      refine cond_f rfl ?_
      (refine yg ?_)
      exact fin_2 ⟨_, rfl, x2, h9⟩
    · rw [if_neg he] at hp
      rw [hp]
      (repeat (first | refine yw ?_ | ((first | apply yd | apply ye); simp (disch := first|exact zz|fail) only [go_sem, dec_t (show positionsErrL ns ≠ 0 from he)]; with_reducible rfl)))
      refine cond_t rfl ?_
      (refine yg ?_)
      exact fin_2 ⟨_, rfl, x2, OwnI.nil _ _⟩
  have hi' : i < pl.length := by omega
  have e1 : (i : Int) + 1 = ((i + 1 : Nat) : Int) := by omega
  have hwm : pl.getD i [] ∈ pl := by rw [List.getD_eq_getElem?_getD, List.getElem?_eq_getElem hi']; exact List.getElem_mem _
  have hwl := hpm _ hwm
  rw [drop_getD (d := ([] : List UInt8)) hi'] at h2
  have hldw := t1.load (Ext.refl _) hi'
  generalize hw : pl.getD i [] = w at hwm hwl h2 hldw
  (repeat (first | refine yw ?_ | ((first | apply yd | apply ye); simp (disch := first|exact zz|fail) only [go_sem, t1.idx, hldw]; with_reducible rfl)))
  (refine aops_call_to (refNumber_c (l := w) (d := 7) (by decide) (by omega)) ?_)
  rw [← numSB (d := 7) (by decide)]
  cases hq : numS 7 w with
  | none =>
    rw [numsS_none hq] at h2
    rw [← hpl, h2] at hp
    have hp : parsePathL l = ([], 7) := hp
    rw [hp]
    (repeat (first | refine yw ?_ | ((first | apply yd | apply ye); simp (disch := first|exact zz|fail) only [go_sem, Option.isSome_none]; with_reducible rfl)))
    refine cond_t rfl ?_
    (refine yg ?_)
    exact fin_2 ⟨_, rfl, x2, OwnI.nil _ _⟩
  | some n =>
    rw [numsS_cons hq] at h2
    (repeat (first | refine yw ?_ | ((first | apply yd | apply ye); simp (disch := first|exact zz|fail) only [go_sem, Option.isSome_some]; with_reducible rfl)))
    refine cond_f rfl ?_
    (repeat (first | refine yw ?_ | ((first | apply yd | apply ye); simp (disch := first|exact zz|fail) only [go_sem, Option.getD_some, ho.push (by omega), e1]; with_reducible rfl)))
    refine ⟨by omega, ns ++ [n], _, ?_, ?_, by simp; omega, ho.ext x1 _, ho.pushed x1 _⟩
    · simp [forget]
    · rw [h2]; cases numsS 7 (pl.drop (i + 1)) <;> simp
end
end Go.Lq

namespace Go.Lq
open Go
open Go.Proofs

theorem index_lt {c : UInt8} (r : List UInt8) (h : 0 ≤ Lib.index r [c]) : Lib.index r [c] < r.length := by
  induction r with
  | nil => simp [Lib.index] at h
  | cons b s ih =>
    by_cases hb : b = c
    · subst hb; rw [index_eq]; simp
    · rw [index_ne hb] at h ⊢
      by_cases hm : Lib.index s [c] = -1
      · rw [if_pos hm] at h; omega
      · rw [if_neg hm] at h ⊢
        have hg := Lib.index_ge s [c]
        have := ih (by omega)
        simp; omega
def pieces (r : List UInt8) : List (List Value) := (cutL 32 r).map fun w => [.string (bs w)]
theorem pieces_no {r : List UInt8} (h : Lib.index r [32] < 0) : pieces r = [[.string (bs r)]] := by
  unfold pieces
  rw [cut_cutL, if_neg (by unfold Lib.cut; rw [if_neg (by omega)]; simp)]
  rfl
theorem pieces_yes {r : List UInt8} (h : 0 ≤ Lib.index r [32]) : pieces r = [.string (bs (r.take (Lib.index r [32]).toNat))] :: pieces (r.drop ((Lib.index r [32]).toNat + 1)) := by
  unfold pieces
  rw [cut_cutL, if_pos (by unfold Lib.cut; rw [if_pos h])]
  unfold Lib.cut
  rw [if_pos h]
  rfl
theorem store_s1 {J : AHeap} {b : Nat} {x : Value} {s : ByteArray} (h : J[b]? = some (.cells true 0 [x])) : storeR 1 (.pointer (some ⟨b, 0, none⟩)) (.string s) J = some (undef, J.set b (.cells true 0 [.string s])) := by
  have ec : (Value.string s).cells.toList = [.string s] := rfl
  have ec2 : (Value.string s).cells.size = 1 := rfl
  have ec4 : ([Value.string s].all isAtom) = true := rfl
  have ec5 : setCells [x] 0 [.string s] = [.string s] := rfl
  simp only [storeR, ec, ec2, if_true, storeAt, h, List.length_cons, List.length_nil, Nat.zero_add, Nat.le_refl, ec4, and_self, Option.map_some, ec5]
def SeqFact (a c : Nat) (H : AHeap) : Prop := StrH H ∧ H[a]? = some (.cells true 0 [.string (bs [32])]) ∧ H[c]? = some (.cells true 0 [.int .i64 0])
section
variable {H : AHeap}
set_option maxHeartbeats 1000000 in
theorem splitSeq1_c {a b c : Nat} {l : List UInt8} (hl : l.length ≤ 100000) :
    GenC Go.Proofs.Tryz.prog 140 [] [.pointer (some ⟨a, 0, none⟩), .pointer (some ⟨b, 0, none⟩), .pointer (some ⟨c, 0, none⟩)] b (.cells true 0 [.string (bs l)]) (SeqFact a c) (pieces l) := by
  intro y I S H0 hF hset hround hk hI0
  show ACall _ _ [.func (.yield y) #[] #[], .pointer (some ⟨a, 0, none⟩), .pointer (some ⟨b, 0, none⟩), .pointer (some ⟨c, 0, none⟩)] _ _
  obtain ⟨fs, fa, fc⟩ := hF _ _ hI0
  have ha0 : loadR (.pointer (some ⟨a, 0, none⟩)) H0 = some (.string (bs [32]), H0) := by rw [load_at fa]; rfl
  (refine a140 ?_; simp only [n140, List.replicate, yq, yr, yt, yu]; first | refine q1 ?_ | refine q2 ?_ | refine q6 ?_ | refine q7 ?_ | refine qh rfl ?_ | skip)
  (repeat (first | refine yw ?_ | ((first | apply yd | apply ye); simp (disch := first|exact zz|fail) only [go_sem, ha0, List.length_cons, List.length_nil]; with_reducible rfl)))
  refine cond_f rfl ?_
  (refine yg ?_)
  refine awp_loop [true, true, true, true, false, false, false, false, false, false, false, false, false, false, false, false, false, false, false, false, false, false, false, false, false, false, false, false, false, false, false, false, false, false, false, false, false, false, false, false, false, false, false, false, false, false, false, false, false, false, false, false] (fun k e H' => e = [.func (.yield y) #[] #[], .pointer (some ⟨a, 0, none⟩), .pointer (some ⟨b, 0, none⟩), .pointer (some ⟨c, 0, none⟩), junk, junk, junk, junk, junk, junk, junk, junk, junk, junk, junk, junk, junk, junk, junk, junk, junk, junk, junk, junk, junk, junk, junk, junk, junk, junk, junk, junk, junk, junk, junk, junk, junk, junk, junk, junk, junk, junk, junk, junk, junk, junk, junk, junk, junk, junk, junk, junk] ∧ ∃ r, k = r.length ∧ r.length ≤ l.length ∧
      H'[b]? = some (.cells true 0 [.string (bs r)]) ∧ I (pieces r) H') l.length ?_ ?_
  · exact ⟨by simp [forget], l, rfl, Nat.le_refl _, hk, hI0⟩
  rintro k e H1 ⟨rfl, r, rfl, hrl, hb, hI⟩
  obtain ⟨fs, fa, fc⟩ := hF _ _ hI
  have ha : loadR (.pointer (some ⟨a, 0, none⟩)) H1 = some (.string (bs [32]), H1) := by rw [load_at fa]; rfl
  have hb0 : loadR (.pointer (some ⟨b, 0, none⟩)) H1 = some (.string (bs r), H1) := by rw [load_at hb]; rfl
  have hc0 : loadR (.pointer (some ⟨c, 0, none⟩)) H1 = some (.int .i64 0, H1) := by rw [load_at fc]; rfl
  (repeat (first | refine yw ?_ | ((first | apply yd | apply ye); simp (disch := first|exact zz|fail) only [go_sem, ha, hb0]; with_reducible rfl)))
  (refine aops_call_to (index_c fs (l := r) (m := [32]) (by omega)) ?_)
  have hge := Lib.index_ge r [32]
  by_cases hneg : Lib.index r [32] < 0
  · rw [pieces_no hneg] at hI
    (repeat (first | refine yw ?_ | ((first | apply yd | apply ye); simp (disch := first|exact zz|fail) only [go_sem, dec_t hneg]; with_reducible rfl)))
    refine cond_t rfl ?_
    (repeat (first | refine yw ?_ | ((first | apply yd | apply ye); simp (disch := first|exact zz|fail) only [go_sem, hb0]; with_reducible rfl)))
    refine aops_call ((hround _ _ _ hI).mono fun v1 H3 h => ?_)
    rcases h with ⟨rfl, hI3, _⟩ | ⟨rfl, hS⟩
    · (refine yg ?_)
      exact ⟨.inl rfl, undef, rfl, .inl hI3⟩
    · (refine yg ?_)
      exact ⟨.inl rfl, undef, rfl, .inr hS⟩
  have h0 : 0 ≤ Lib.index r [32] := by omega
  have hlt := index_lt r h0
  rw [pieces_yes h0] at hI
  obtain ⟨n, hn⟩ : ∃ n, n = (Lib.index r [32]).toNat := ⟨_, rfl⟩
  have hn' : Lib.index r [32] = (n : Int) := by omega
  rw [hn', Int.toNat_natCast] at hI
  rw [hn'] at hneg hlt ⊢
  have hnl : n < r.length := by omega
  (repeat (first | refine yw ?_ | ((first | apply yd | apply ye); simp (disch := first|exact zz|fail) only [go_sem, dec_f hneg, hb0, hc0]; with_reducible rfl)))
  refine cond_f rfl ?_
  (repeat (first | refine yw ?_ | ((first | apply yd | apply ye); simp (disch := first|exact zz|fail) only [go_sem, hb0, hc0]; with_reducible rfl)))
  have e0 : (n : Int) + 0 = (n : Int) := by omega
  refine aops_call ((hround _ _ _ hI).mono fun v1 H3 h => ?_)
  rcases h with ⟨rfl, hI3, hb3⟩ | ⟨rfl, hS⟩
  · obtain ⟨fs3, fa3, fc3⟩ := hF _ _ hI3
    have hb3' : H3[b]? = some (.cells true 0 [.string (bs r)]) := hb3.trans hb
    have ha3 : loadR (.pointer (some ⟨a, 0, none⟩)) H3 = some (.string (bs [32]), H3) := by rw [load_at fa3]; rfl
    have hb30 : loadR (.pointer (some ⟨b, 0, none⟩)) H3 = some (.string (bs r), H3) := by rw [load_at hb3']; rfl
    have e1 : ((n : Int) + ((0 + 1 : Nat) : Int)) = ((n + 1 : Nat) : Int) := by omega
    (refine yg ?_)
    refine cond_f rfl ?_
    (repeat (first | refine yw ?_ | ((first | apply yd | apply ye); simp (disch := first|exact zz|fail) only [go_sem, hb30, ha3, List.length_cons, List.length_nil, e1, store_s1 hb3']; with_reducible rfl)))
    refine ⟨_, ?_, rfl, r.drop (n + 1), rfl, by rw [List.length_drop]; omega, get_set_self hb3', hset _ _ _ hI3⟩
    rw [List.length_drop]; omega
  · (refine yg ?_)
    refine cond_t rfl ?_
    (refine yg ?_)
    exact ⟨.inr rfl, undef, rfl, .inr hS⟩
end
end Go.Lq

namespace Go.Lq
open Go
open Go.Proofs

theorem Own.set_lt {H0 H : AHeap} {sz n : Nat} {vs : List Value} {v : Value} (h : Own H0 H sz n vs v) {j : Nat} (hj : j < H0.length) (c : AObj) : Own H0 (H.set j c) sz n vs v :=
  ⟨h.1, h.2.imp_right fun ⟨id, e, h1, h2, hc⟩ => ⟨id, e, h1, h2, by rw [List.getElem?_set_ne (by omega)]; exact hc⟩⟩
section
variable {H : AHeap}
theorem box_str {s : ByteArray} {H : AHeap} : boxR (.string s) H = some (.pointer (some ⟨H.length, 0, none⟩), H ++ [.cells true 0 [.string s]]) := rfl
theorem box_i0 {n : Int} {H : AHeap} : boxR (.int .i64 n) H = some (.pointer (some ⟨H.length, 0, none⟩), H ++ [.cells true 0 [.int .i64 n]]) := rfl
theorem splitSeq_c {l : List UInt8} : ACall Go.Proofs.Tryz.prog 40 [.string (bs l), .string (bs [32])] H fun v H' =>
    v = .func (.func 140) ⟨[]⟩ ⟨[.pointer (some ⟨H.length + 1, 0, none⟩), .pointer (some ⟨H.length, 0, none⟩), .pointer (some ⟨H.length + 2, 0, none⟩)]⟩ ∧
      H' = H ++ [.cells true 0 [.string (bs l)], .cells true 0 [.string (bs [32])], .cells true 0 [.int .i64 0]] := by
  have inner : ACall Go.Proofs.Tryz.prog 98 [.string (bs l), .string (bs [32]), .int .i64 0] H fun v H' =>
    v = .func (.func 140) ⟨[]⟩ ⟨[.pointer (some ⟨H.length + 1, 0, none⟩), .pointer (some ⟨H.length, 0, none⟩), .pointer (some ⟨H.length + 2, 0, none⟩)]⟩ ∧
      H' = H ++ [.cells true 0 [.string (bs l)], .cells true 0 [.string (bs [32])], .cells true 0 [.int .i64 0]] := by
    (refine a98 ?_; simp only [n98, List.replicate, yq, yr, yt, yu]; first | refine q1 ?_ | refine q2 ?_ | refine q6 ?_ | refine q7 ?_ | refine qh rfl ?_ | skip)
    (repeat (first | refine yw ?_ | ((first | apply yd | apply ye); simp (disch := first|exact zz|fail) only [go_sem, box_str, box_i0]; with_reducible rfl)))
    refine fin_1 ⟨?_, by simp⟩
    simp
  (refine a40 ?_; simp only [n40, List.replicate, yq, yr, yt, yu]; first | refine q1 ?_ | refine q2 ?_ | refine q6 ?_ | refine q7 ?_ | refine qh rfl ?_ | skip)
  (refine yg ?_)
  refine aops_call_to inner ?_
  (refine yg ?_)
  exact fin_1 ⟨rfl, rfl⟩
end
end Go.Lq

namespace Go.Lq
open Go
open Go.Proofs

theorem fin_LL {c : RCode} {n a b : Nat} {R : Value → AHeap → Prop} {e : Env} {H : AHeap} {u w : Value} (h1 : loadR (e.getD a undef) H = some (u, H)) (h2 : loadR (e.getD b undef) H = some (w, H)) (h : R (.tuple #[u, w]) H) :
    Fin ⟨c, n, [.load a, .load b]⟩ R .ret e H := by
  refine ⟨.inr rfl, _, ?_, h⟩
  unfold loadR at h1 h2
  split at h1
  · rename_i id off hp
    simp only [Option.map_eq_some_iff, Prod.mk.injEq, and_true] at h1
    obtain ⟨us, h3, rfl⟩ := h1
    split at h2
    · rename_i id' off' hp'
      simp only [Option.map_eq_some_iff, Prod.mk.injEq, and_true] at h2
      obtain ⟨us', h4, rfl⟩ := h2
      simp only [resultA, List.mapM_cons, resA, hp, h3, hp', h4, Option.map_some, List.mapM_nil]
      rfl
    · cases h2
  · cases h1
theorem ld_1 {G : AHeap} {id : Nat} {a : Value} (h : G[id]? = some (.cells true 0 [a])) : loadR (.pointer (some ⟨id, 0, none⟩)) G = some (a, G) := by rw [load_at h]; rfl
theorem st_i1 {J : AHeap} {b : Nat} {x : Value} {n : Int} (h : J[b]? = some (.cells true 0 [x])) : storeR 1 (.pointer (some ⟨b, 0, none⟩)) (.int .i64 n) J = some (undef, J.set b (.cells true 0 [.int .i64 n])) := by
  have ec : (Value.int .i64 n).cells.toList = [.int .i64 n] := rfl
  have ec2 : (Value.int .i64 n).cells.size = 1 := rfl
  have ec4 : ([Value.int .i64 n].all isAtom) = true := rfl
  have ec5 : setCells [x] 0 [.int .i64 n] = [.int .i64 n] := rfl
  simp only [storeR, ec, ec2, if_true, storeAt, h, List.length_cons, List.length_nil, Nat.zero_add, Nat.le_refl, ec4, and_self, Option.map_some, ec5]
theorem st_l1 {J : AHeap} {b : Nat} {x : Value} {a : Option Addr} {n c : Nat} (h : J[b]? = some (.cells true 0 [x])) : storeR 1 (.pointer (some ⟨b, 0, none⟩)) (.slice a n c) J = some (undef, J.set b (.cells true 0 [.slice a n c])) := by
  have ec : (Value.slice a n c).cells.toList = [.slice a n c] := rfl
  have ec2 : (Value.slice a n c).cells.size = 1 := rfl
  have ec4 : ([Value.slice a n c].all isAtom) = true := rfl
  have ec5 : setCells [x] 0 [.slice a n c] = [.slice a n c] := rfl
  simp only [storeR, ec, ec2, if_true, storeAt, h, List.length_cons, List.length_nil, Nat.zero_add, Nat.le_refl, ec4, and_self, Option.map_some, ec5]
theorem OwnI.set_lt {H0 H : AHeap} {l : List Int} {v : Value} (h : OwnI H0 H l v) {j : Nat} (hj : j < H0.length) (c : AObj) : OwnI H0 (H.set j c) l v := Own.set_lt h hj c
def KeepB (a b : Nat) (G H : AHeap) : Prop := G.length ≤ H.length ∧ ∀ i, i < G.length → i ≠ a → i ≠ b → H[i]? = G[i]?
theorem KeepB.get {a b : Nat} {G H : AHeap} (h : KeepB a b G H) {i : Nat} {c : AObj} (hi : G[i]? = some c) (ha : i ≠ a) (hb : i ≠ b) : H[i]? = some c := by
  rw [h.2 i (List.getElem?_eq_some_iff.1 hi).1 ha hb]; exact hi
theorem KeepB.set {a b j : Nat} {G H : AHeap} (h : KeepB a b G H) (hj : j = a ∨ j = b ∨ G.length ≤ j) (c : AObj) : KeepB a b G (H.set j c) :=
  ⟨by simpa using h.1, fun i hi h1 h2 => by rw [List.getElem?_set_ne (by omega)]; exact h.2 i hi h1 h2⟩
theorem KeepB.ext {a b : Nat} {H0 G H : AHeap} (h : KeepB a b G H) (hx : Ext H0 G) (ha : H0.length ≤ a) (hb : H0.length ≤ b) : Ext H0 H :=
  ext_of_get (by have := hx.len; have := h.1; omega) fun i hi => by rw [h.2 i (by have := hx.len; omega) (by omega) (by omega)]; exact hx.get hi
theorem KeepB.push {a b : Nat} {G H : AHeap} (h : KeepB a b G H) {B : AHeap} {ns : List Int} {v : Value} (ho : OwnI B H ns v) (hB : G.length ≤ B.length) (x : Int) : KeepB a b G (pushH H v ns x) := by
  unfold pushH appH
  rcases ho.2 with ⟨rfl, _⟩ | ⟨id, rfl, h1, _, _⟩
  · exact ⟨by have := h.1; simp; omega, fun i hi e1 e2 => by
      have := h.1
      rw [List.getElem?_append_left (by simp; omega), List.getElem?_append_left (by omega)]
      exact h.2 i hi e1 e2⟩
  · exact ⟨by have := h.1; simp; omega, fun i hi e1 e2 => by
      have := h.1
      rw [List.getElem?_append_left (by simp; omega), List.getElem?_set_ne (by show id ≠ i; omega), List.getElem?_append_left (by omega)]
      exact h.2 i hi e1 e2⟩
theorem pushI_get {H : AHeap} {B : AHeap} {ns : List Int} {v : Value} (ho : OwnI B H ns v) {i : Nat} (hi : i < B.length) (hl : i < H.length) (x : Int) : (pushH H v ns x)[i]? = H[i]? := by
  unfold pushH appH
  rcases ho.2 with ⟨rfl, _⟩ | ⟨id, rfl, h1, _, _⟩
  · rw [List.getElem?_append_left (by simp; omega), List.getElem?_append_left hl]
  · rw [List.getElem?_append_left (by simp; omega), List.getElem?_set_ne (by show id ≠ i; omega), List.getElem?_append_left hl]
theorem OwnI.pushed2 {H0 H : AHeap} {l : List Int} {v : Value} (h : OwnI H0 H l v) (hx : H0.length ≤ H.length) (x : Int) : OwnI H0 (pushH H v l x) (l ++ [x]) (pushV H l.length) := by
  have := Own.appended (h.app [.cells true 1 [.int .i64 x]]) (m := 1) (cs := [.int .i64 x]) rfl (by omega) (by simp; omega)
  unfold OwnI
  simpa [pushV, pushH] using this
def LeftP (l : List UInt8) (i4 k : Nat) (G : AHeap) (rest : List (List Value)) (H : AHeap) : Prop :=
  ∃ (ws : List (List UInt8)) (ns : List Int) (v : Value), rest = ws.map (fun w => [Value.string (bs w)]) ∧ numsS 7 (cutL 32 l) = (numsS 7 ws).map (ns ++ ·) ∧ (∀ w ∈ ws, w.length ≤ 100000) ∧ ns.length + ws.length ≤ 100001 ∧
    KeepB i4 k G H ∧ H[i4]? = some (.cells true 0 [v]) ∧ OwnI (G ++ [.dead]) H ns v
def StopP (l : List UInt8) (H0 : AHeap) (x : AExit) (H : AHeap) : Prop :=
  x = .ret ∧ numsS 7 (cutL 32 l) = none ∧ Ext H0 H ∧ H[H0.length]? = some (.cells true 0 [.slice none 0 0]) ∧ H[H0.length + 1]? = some (.cells true 0 [.int .i64 7])
def junkP : Env := []
theorem numS_no {w : List UInt8} (h : ∀ n, Lib.atoiAll w ≠ .ok n) : numS 7 w = none := by
  unfold numS
  split
  · rename_i n hn; exact absurd hn (h n)
  · rfl
theorem numS_bad {w : List UInt8} {n : Int} (h : Lib.atoiAll w = .ok n) (hb : ¬ (Lib.itoa n = w ∧ ((trimM w).length : Int) ≤ 7)) : numS 7 w = none := by
  unfold numS
  rw [h]
  show (if _ then _ else _) = _
  rw [if_neg hb]
theorem numS_ok {w : List UInt8} {n : Int} (h : Lib.atoiAll w = .ok n) (hb : Lib.itoa n = w ∧ ((trimM w).length : Int) ≤ 7) : numS 7 w = some n := by
  unfold numS
  rw [h]
  show (if _ then _ else _) = _
  rw [if_pos hb]
theorem trimM_length (w : List UInt8) : (trimM w).length ≤ w.length := by
  match w with
  | [] => exact Nat.le_refl _
  | b :: r =>
    by_cases hb : b = 45
    · rw [hb, trimM_minus]; simp
    · rw [trimM_plain hb]; exact Nat.le_refl _
section
variable {H : AHeap}
set_option maxHeartbeats 4000000 in
theorem parsePath_c (hs : StrH H) {l : List UInt8} (hl : l.length ≤ 100000) : ACall Go.Proofs.Tryz.prog 9 [.string (bs l)] H (IntsRes H (parsePathL l).1 (parsePathL l).2) := by
  refine ACall.intsE ?_
  (refine a9 ?_; simp only [n9, List.replicate, List.length_cons, List.length_nil, List.cons_append, List.nil_append]; first | refine Go.Lq.q1 ?_ | refine Go.Lq.q2 ?_ | refine Go.Lq.q6 ?_ | refine Go.Lq.q7 ?_ | refine Go.Lq.qh rfl ?_ | skip)
  have x0 : Ext H (H ++ [AObj.cells true 0 [.slice none 0 0]] ++ [AObj.cells true 0 [.int .i64 0]]) := ((Ext.refl H).app _).app _
  have r2 : (H ++ [AObj.cells true 0 [.slice none 0 0]] ++ [AObj.cells true 0 [.int .i64 0]])[H.length]? = some (.cells true 0 [.slice none 0 0]) := by simp
  have r3 : (H ++ [AObj.cells true 0 [.slice none 0 0]] ++ [AObj.cells true 0 [.int .i64 0]])[H.length + 1]? = some (.cells true 0 [.int .i64 0]) := by simp
  have r3' : ∀ c, ((H ++ [AObj.cells true 0 [.slice none 0 0]] ++ [AObj.cells true 0 [.int .i64 0]]).set H.length c)[H.length + 1]? = some (.cells true 0 [.int .i64 0]) := fun c => by rw [List.getElem?_set_ne (by omega)]; exact r3
  by_cases h6 : (60000 : Int) < (l.length : Int)
  · have hp : parsePathL l = ([], 8) := by unfold parsePathL; rw [if_pos h6]
    rw [hp]
    (repeat (first | refine yw ?_ | ((first | apply yd | apply ye); simp (disch := first|exact zz|fail) only [go_sem, dec_t h6]; with_reducible rfl)))
    refine cond_t rfl ?_
    (simp only [List.length_append, List.length_cons, List.length_nil, Nat.zero_add, Nat.add_assoc, Nat.reduceAdd])
    (repeat (first | refine yw ?_ | ((first | apply yd | apply ye); simp (disch := first|exact zz|fail) only [go_sem, st_l1 r2, st_i1 (r3' _)]; with_reducible rfl)))
    exact fin_LL (ld_1 (by rw [List.getElem?_set_ne (by omega)]; exact get_set_self r2)) (ld_1 (get_set_self (r3' _))) ⟨_, rfl, (x0.set (Nat.le_refl _) _).set (by omega) _, OwnI.nil _ _⟩
  (repeat (first | refine yw ?_ | ((first | apply yd | apply ye); simp (disch := first|exact zz|fail) only [go_sem, dec_f h6]; with_reducible rfl)))
  refine cond_f rfl ?_
  by_cases h0 : l = []
  · have hp : parsePathL l = ([], 0) := by unfold parsePathL; rw [if_neg h6, if_pos h0]
    rw [hp]
    (repeat (first | refine yw ?_ | ((first | apply yd | apply ye); simp (disch := first|exact zz|fail) only [go_sem, dec_t h0]; with_reducible rfl)))
    refine cond_t rfl ?_
    (simp only [List.length_append, List.length_cons, List.length_nil, Nat.zero_add, Nat.add_assoc, Nat.reduceAdd])
    (repeat (first | refine yw ?_ | ((first | apply yd | apply ye); simp (disch := first|exact zz|fail) only [go_sem, st_l1 r2, st_i1 (r3' _)]; with_reducible rfl)))
    exact fin_LL (ld_1 (by rw [List.getElem?_set_ne (by omega)]; exact get_set_self r2)) (ld_1 (get_set_self (r3' _))) ⟨_, rfl, (x0.set (Nat.le_refl _) _).set (by omega) _, OwnI.nil _ _⟩
  have hp : parsePathL l = match numsS 7 (cutL 32 l) with
    | none => ([], 7)
    | some ns => if positionsErrL ns = 0 then (ns, 0) else ([], positionsErrL ns) := by unfold parsePathL; rw [if_neg h6, if_neg h0]; first | done | rfl
  clear r2 r3 r3' x0
  (repeat (first | refine yw ?_ | ((first | apply yd | apply ye); simp (disch := first|exact zz|fail) only [go_sem, dec_f h0]; with_reducible rfl)))
  refine cond_f rfl ?_
  (refine yg ?_)
  refine aops_call_to splitSeq_c ?_
  (simp only [List.length_append, List.length_cons, List.length_nil, Nat.zero_add, Nat.add_assoc, Nat.reduceAdd])
  obtain ⟨G, hG⟩ : ∃ G, G = H ++ [AObj.cells true 0 [.slice none 0 0]] ++ [AObj.cells true 0 [.int .i64 0]] ++ [AObj.cells true 0 [.slice none 0 0]] ++ [AObj.cells true 0 [.string (bs l)], AObj.cells true 0 [.string (bs [32])], AObj.cells true 0 [.int .i64 0]] := ⟨_, rfl⟩
  have k2 : G[H.length]? = some (.cells true 0 [.slice none 0 0]) := by rw [hG]; simp
  have k3 : G[H.length + 1]? = some (.cells true 0 [.int .i64 0]) := by rw [hG]; simp
  have k4 : G[H.length + 2]? = some (.cells true 0 [.slice none 0 0]) := by rw [hG]; simp
  have kb : G[H.length + 3]? = some (.cells true 0 [.string (bs l)]) := by rw [hG]; simp
  have ka : G[H.length + 4]? = some (.cells true 0 [.string (bs [32])]) := by rw [hG]; simp
  have kc : G[H.length + 5]? = some (.cells true 0 [.int .i64 0]) := by rw [hG]; simp
  have lG : G.length = H.length + 6 := by rw [hG]; simp
  have xG : Ext H G := by rw [hG]; exact ((((Ext.refl H).app _).app _).app _).app _
  rw [← hG]
  clear hG
  (refine yg ?_)
  refine awp_rangeC mo rfl (fun l h => by cases h) (splitSeq1_c (a := H.length + 4) (b := H.length + 3) (c := H.length + 5) (l := l) (by omega)) kb (LeftP l (H.length + 2) (H.length + 3) G) (StopP l H) ?_ ?_ ?_ ?_ ?_ ?_ ?_ ?_
  · rintro rest H' c' ⟨ws, ns, v, h1, h2, h3, h4, h5, h7, h8⟩
    exact ⟨ws, ns, v, h1, h2, h3, h4, h5.set (.inr (.inr (Nat.le_refl _))) _, by rw [List.getElem?_set_ne (by omega)]; exact h7, h8.set_lt (by simp) _⟩
  · rintro rest H' c' ⟨ws, ns, v, h1, h2, h3, h4, h5, h7, h8⟩
    exact ⟨ws, ns, v, h1, h2, h3, h4, h5.set (.inr (.inl rfl)) _, by rw [List.getElem?_set_ne (by omega)]; exact h7, h8.set_lt (by simp; omega) _⟩
  · rintro x H' c' ⟨h1, h2, h3, h4, h5⟩
    exact ⟨h1, h2, h3.set (by omega) _, by rw [List.getElem?_set_ne (by omega)]; exact h4, by rw [List.getElem?_set_ne (by omega)]; exact h5⟩
  · rintro rest H' ⟨ws, ns, v, h1, h2, h3, h4, h5, h7, h8⟩
    exact ⟨hs.ext (h5.ext xG (by omega) (by omega)), h5.get ka (by omega) (by omega), h5.get kc (by omega) (by omega)⟩
  · intro N
    refine ⟨cutL 32 l, [], .slice none 0 0, rfl, ?_, fun w hw => by have := cutL_piece 32 l w hw; omega, by have := cutL_length 32 l; simp; omega, ⟨by simp, fun i hi _ _ => List.getElem?_append_left hi⟩, by rw [List.getElem?_append_left (by omega)]; exact k4, OwnI.nil _ _⟩
    cases numsS 7 (cutL 32 l) <;> simp
  · rintro a rest H1 ⟨ws, ns, v, h1, h2, h3, h4, h5, h7, h8⟩ hlt
    match ws, h1 with
    | w :: ws, h1 =>
    obtain ⟨rfl, rfl⟩ := List.cons.inj h1
    have hwl := h3 w (List.mem_cons_self ..)
    have htl := trimM_length w
    refine ⟨rfl, fun R Rb _ hR => ?_⟩
    simp only [assignParams, List.zip_cons_cons, List.zip_nil_left, List.foldl_cons, List.foldl_nil]
    (refine yg ?_)
    refine ⟨rfl, hR, ?_⟩
    have h5' := h5.set (.inr (.inr (Nat.le_refl _))) Rb
    have h7' : (H1.set G.length Rb)[H.length + 2]? = some (.cells true 0 [v]) := by rw [List.getElem?_set_ne (by omega)]; exact h7
    have h8' : OwnI (G ++ [.dead]) (H1.set G.length Rb) ns v := h8.set_lt (by simp) _
    have hRb : (H1.set G.length Rb)[G.length]? = some Rb := get_set_self hR
    have hkk : (H1.set G.length Rb)[H.length + 3]? = H1[H.length + 3]? := List.getElem?_set_ne (by omega)
    have hll : G.length < (H1.set G.length Rb).length := by simpa using hlt
    generalize (H1.set G.length Rb : AHeap) = K at h5' h7' h8' hRb hkk hll
    have xK := h5'.ext xG (by omega) (by omega)
    have hsK := hs.ext xK
    have m2 := h5'.get k2 (by omega) (by omega)
    have m3 := h5'.get k3 (by omega) (by omega)
    have m3' : ∀ c, (K.set H.length c)[H.length + 1]? = some (.cells true 0 [.int .i64 0]) := fun c => by rw [List.getElem?_set_ne (by omega)]; exact m3
    have hstop : numS 7 w = none → Rounded G.length Rb (fun H' => LeftP l (H.length + 2) (H.length + 3) G (List.map (fun w => [Value.string (bs w)]) ws) H' ∧ H'[H.length + 3]? = H1[H.length + 3]?) (StopP l H) .ret junkP
        ((K.set H.length (.cells true 0 [.slice none 0 0])).set (H.length + 1) (.cells true 0 [.int .i64 7])) := fun hn => by
      refine rounded_r ?_ ⟨rfl, by rw [h2, numsS_none hn]; rfl, (xK.set (Nat.le_refl _) _).set (by omega) _, ?_, get_set_self (m3' _)⟩
      · rw [List.getElem?_set_ne (by omega), List.getElem?_set_ne (by omega)]; exact hRb
      · rw [List.getElem?_set_ne (by omega)]; exact get_set_self m2
    (refine yg ?_)
    refine aops_call ((atoi_c hsK (l := w) (by omega)).mono fun v1 K1 ⟨hr, e⟩ => ?_)
    subst e
    rcases hr with ⟨n, hn, rfl⟩ | ⟨hn, n, t, rfl⟩
    rotate_left 1
    · (refine yg ?_)
      refine cond_t rfl ?_
      (repeat (first | refine yw ?_ | ((first | apply yd | apply ye); simp (disch := first|exact zz|fail) only [go_sem, st_l1 m2, st_i1 (m3' _)]; with_reducible rfl)))
      exact hstop (numS_no hn)
    obtain ⟨b0, b1⟩ := Lib.atoiAll_bounds hn
    (refine yg ?_)
    refine aops_call_to (itoa_c hsK b0 b1) ?_
    by_cases e1 : Lib.itoa n = w
    rotate_left 1
    · (repeat (first | refine yw ?_ | ((first | apply yd | apply ye); simp (disch := first|exact zz|fail) only [go_sem, dec_t (show Lib.itoa n ≠ w from e1)]; with_reducible rfl)))
      refine cond_t rfl ?_
      (repeat (first | refine yw ?_ | ((first | apply yd | apply ye); simp (disch := first|exact zz|fail) only [go_sem, st_l1 m2, st_i1 (m3' _)]; with_reducible rfl)))
      exact hstop (numS_bad hn fun h => e1 h.1)
    (repeat (first | refine yw ?_ | ((first | apply yd | apply ye); simp (disch := first|exact zz|fail) only [go_sem, dec_f (show ¬ Lib.itoa n ≠ w from fun h => h e1)]; with_reducible rfl)))
    refine aops_call_to trim_c ?_
    by_cases e2 : (7 : Int) < ((trimM w).length : Int)
    · (repeat (first | refine yw ?_ | ((first | apply yd | apply ye); simp (disch := first|exact zz|fail) only [go_sem, dec_t e2]; with_reducible rfl)))
      refine cond_t rfl ?_
      (repeat (first | refine yw ?_ | ((first | apply yd | apply ye); simp (disch := first|exact zz|fail) only [go_sem, st_l1 m2, st_i1 (m3' _)]; with_reducible rfl)))
      exact hstop (numS_bad hn fun h => by omega)
    have hok := numS_ok hn ⟨e1, by omega⟩
    rw [numsS_cons hok] at h2
    (repeat (first | refine yw ?_ | ((first | apply yd | apply ye); simp (disch := first|exact zz|fail) only [go_sem, dec_f e2]; with_reducible rfl)))
    refine cond_f rfl ?_
    have hlv : loadR (.pointer (some ⟨H.length + 2, 0, none⟩)) K1 = some (v, K1) := by rw [load_at h7']; rfl
    have hbl : (G ++ [AObj.dead]).length = G.length + 1 := by simp
    have hpg : ∀ i, i ≤ G.length → (pushH K1 v ns n)[i]? = K1[i]? := fun i hi => pushI_get h8' (by omega) (by omega) _
    have hp4 : (pushH K1 v ns n)[H.length + 2]? = some (.cells true 0 [v]) := by rw [hpg _ (by omega)]; exact h7'
    have hst : storeR 1 (.pointer (some ⟨H.length + 2, 0, none⟩)) (pushV K1 ns.length) (pushH K1 v ns n) = some (undef, (pushH K1 v ns n).set (H.length + 2) (.cells true 0 [pushV K1 ns.length])) := by unfold pushV; exact st_l1 hp4
    have hnl : ns.length < 1000000000 := by omega
    (repeat (first | refine yw ?_ | ((first | apply yd | apply ye); simp (disch := first|exact zz|fail) only [go_sem, hlv, h8'.push hnl, hst]; with_reducible rfl)))
    refine rounded_n ?_ ⟨⟨ws, ns ++ [n], pushV K1 ns.length, rfl, ?_, fun x hx => h3 x (List.mem_cons_of_mem _ hx), ?_, (h5'.push h8' (by omega) _).set (.inl rfl) _, get_set_self hp4, (h8'.pushed2 (by omega) _).set_lt (by omega) _⟩, ?_⟩
    · rw [List.getElem?_set_ne (by omega), hpg _ (Nat.le_refl _)]; exact hRb
    · rw [h2]; cases numsS 7 ws <;> simp
    · simp at h4 ⊢; omega
    · rw [List.getElem?_set_ne (by omega), hpg _ (by omega)]; exact hkk
  · rintro H' ⟨ws, ns, v, h1, h2, h3, h4, h5, h7, h8⟩
    match ws, h1 with
    | [], _ =>
    have hns : numsS 7 (cutL 32 l) = some ns := by rw [h2]; show some (ns ++ []) = _; rw [List.append_nil]
    rw [hns] at hp
    have hp : parsePathL l = if positionsErrL ns = 0 then (ns, 0) else ([], positionsErrL ns) := hp
    have xK := h5.ext xG (by omega) (by omega)
    have m2 := h5.get k2 (by omega) (by omega)
    have m3 := h5.get k3 (by omega) (by omega)
    have m3' : ∀ c, (H'.set H.length c)[H.length + 1]? = some (.cells true 0 [.int .i64 0]) := fun c => by rw [List.getElem?_set_ne (by omega)]; exact m3
    have hbl : (G ++ [AObj.dead]).length = G.length + 1 := by simp
    have h9 : OwnI H H' ns v := h8.lt (by omega)
    obtain ⟨va, vn, vc, rfl⟩ : ∃ a n c, v = .slice a n c := by
      rcases h8.2 with ⟨rfl, _⟩ | ⟨id, rfl, _⟩ <;> exact ⟨_, _, _, rfl⟩
    (repeat (first | refine yw ?_ | ((first | apply yd | apply ye); simp (disch := first|exact zz|fail) only [go_sem, ld_1 h7]; with_reducible rfl)))
    (refine aops_call_to (positionsErr_c h9.ints (by omega)) ?_)
    by_cases he : positionsErrL ns = 0
    · rw [if_pos he] at hp
      rw [hp, he]
      (refine yg ?_)
      refine cond_f rfl ?_
      (repeat (first | refine yw ?_ | ((first | apply yd | apply ye); simp (disch := first|exact zz|fail) only [go_sem, ld_1 h7, st_l1 m2, st_i1 (m3' _)]; with_reducible rfl)))
      exact fin_LL (ld_1 (by rw [List.getElem?_set_ne (by omega)]; exact get_set_self m2)) (ld_1 (get_set_self (m3' _))) ⟨_, rfl, (xK.set (Nat.le_refl _) _).set (by omega) _, OwnI.lt (H0 := G ++ [.dead]) ((h8.set_lt (by omega) _).set_lt (by omega) _) (by omega)⟩
    · rw [if_neg he] at hp
      rw [hp]
      (repeat (first | refine yw ?_ | ((first | apply yd | apply ye); simp (disch := first|exact zz|fail) only [go_sem, dec_t (show positionsErrL ns ≠ 0 from he)]; with_reducible rfl)))
      refine cond_t rfl ?_
      (repeat (first | refine yw ?_ | ((first | apply yd | apply ye); simp (disch := first|exact zz|fail) only [go_sem, st_l1 m2, st_i1 (m3' _)]; with_reducible rfl)))
      exact fin_LL (ld_1 (by rw [List.getElem?_set_ne (by omega)]; exact get_set_self m2)) (ld_1 (get_set_self (m3' _))) ⟨_, rfl, (xK.set (Nat.le_refl _) _).set (by omega) _, OwnI.nil _ _⟩
  · rintro x H' hx ⟨rfl, h2, h3, h4, h5⟩
    rw [h2] at hp
    have hp : parsePathL l = ([], 7) := hp
    rw [hp]
    exact blk_r (seq_r (fin_LL (ld_1 h4) (ld_1 h5) ⟨.slice none 0 0, rfl, h3, OwnI.nil _ _⟩))
end
end Go.Lq

namespace Go.Lq
open Go
open Go.Proofs
theorem i64_of {n : Int} (h : InI64 n) : i64 n := by unfold InI64 at h; unfold i64; omega
theorem Rep.str_inv {P : Program} {H : AHeap} {t : TypeId} {vs : List Value} (ht : P.underlying t = some .string) (h : Rep P H t vs) : ∃ s, vs = [.string s] ∧ s.size ≤ maxLen := by
  cases h with
  | string h hs => exact ⟨_, rfl, hs⟩
  | bool h => rw [ht] at h; cases h
  | int h => rw [ht] at h; cases h
  | nil h => rw [ht] at h; cases h
  | empty h => rw [ht] at h; cases h
  | slice h => rw [ht] at h; cases h
  | struct h => rw [ht] at h; cases h
  | array h => rw [ht] at h; cases h
theorem RepA.str {P : Program} {H : AHeap} {t : TypeId} {v : Value} (ht : P.underlying t = some .string) (h : RepA P H t v) : ∃ l : List UInt8, v = .string (bs l) ∧ l.length ≤ maxLen := by
  obtain ⟨s, e, hs⟩ := (h.flat (fun _ e => by rw [ht] at e; cases e) (fun _ _ e => by rw [ht] at e; cases e)).str_inv ht
  cases e
  refine ⟨s.data.toList, by rw [← bs_of], ?_⟩
  have : s.size = s.data.toList.length := by cases s; simp [ByteArray.size]
  omega
theorem parsePathL_len (l : List UInt8) : (parsePathL l).1.length ≤ 200 := by
  unfold parsePathL
  split
  · simp
  · split
    · simp
    · split
      · simp
      · split
        · exact (sized_pos (by assumption)).2
        · simp
end Go.Lq

namespace Go.Lq
open Go
open Go.Proofs

set_option maxRecDepth 100000 in
set_option maxHeartbeats 4000000 in
theorem law3 {H : AHeap} {avs : List Value} (hS : ∃ m t u, Ext (S0 m t u) H) (h : RepAll Tryz.prog H [22, 9] avs) : ACall Tryz.prog 3 avs H fun v _ => v = .bool true := by
  obtain ⟨m, t, u, hx⟩ := hS
  have hs := strH0 hx
  obtain ⟨a, b, rfl, h1, h2⟩ := h.two
  obtain ⟨l, hl, hlm, hi⟩ := h1.ints Tryz.underlying22 Tryz.underlying3 (by kernel_rfl)
  obtain ⟨s, rfl, hsl⟩ := h2.str Tryz.underlying9
  have hw : InW l := fun n hn => i64_of (hi n hn)
  (refine a3 ?_; simp only [n3, List.replicate, yq, yr, yt, yu]; first | refine q1 ?_ | refine q2 ?_ | refine q6 ?_ | refine q7 ?_ | refine qh rfl ?_ | skip)
  (refine yg ?_)
  (refine aops_call_to (awakeS_c hx) ?_)
  (refine yg ?_)
  refine cond_f rfl ?_
  (refine yg ?_)
  (refine aops_call_to (long_c hl) ?_)
  by_cases hlong : l.length ≤ 203
  rotate_left 1
  · (repeat (first | refine yw ?_ | ((first | apply yd | apply ye); simp (disch := first|exact zz|fail) only [go_sem, dec_f hlong]; with_reducible rfl)))
    refine cond_t rfl ?_
    (refine yg ?_)
    exact fin_1 rfl
  have hb : l.length ≤ 1000000000 := by omega
  have hml := pathT_length hw
  by_cases hc1 : (200 : Int) < (s.length : Int) ∧ (s.length : Int) ≤ 60000
  · (repeat (first | refine yw ?_ | ((first | apply yd | apply ye); simp (disch := first|exact zz|fail) only [go_sem, dec_t hlong, dec_t hc1.1, dec_t hc1.2]; with_reducible rfl)))
    refine cond_t rfl ?_
    (refine yg ?_)
    exact fin_1 rfl
  by_cases hc2 : (60010 : Int) < (s.length : Int)
  · (repeat (first | refine yw ?_ | ((first | apply yd | apply ye); simp (disch := first|exact zz|fail) only [go_sem, dec_t hlong, dec_t (show (200 : Int) < (s.length : Int) by omega), dec_f (show ¬ (s.length : Int) ≤ 60000 by omega), dec_t hc2]; with_reducible rfl)))
    refine cond_t rfl ?_
    (refine yg ?_)
    exact fin_1 rfl
  have hs5 : s.length ≤ 100000 := by omega
  refine aops_mid [true, true, false, false, true, false, false, false, false, false, false, false, false, false, false, false, false, false, false, false, false, false, false, false, false, false, false, false, false, false, false, true, false, false, false, false, false, false, false, false, false, false, false, false, false, false, false, false, false, false, false, false, false, false, false, false, false, false, false, false, false, false, false, false, false, false, false, false, false, false, false, false, false, false, false] (fun e J => J = H ∧ e = [a, .string (bs s), junk, junk, .bool false, junk, junk, junk, junk, junk, junk, junk, junk, junk, junk, junk, junk, junk, junk, junk, junk, junk, junk, junk, junk, junk, junk, junk, junk, junk, junk, .bool false, junk, junk, junk, junk, junk, junk, junk, junk, junk, junk, junk, junk, junk, junk, junk, junk, junk, junk, junk, junk, junk, junk, junk, junk, junk, junk, junk, junk, junk, junk, junk, junk, junk, junk, junk, junk, junk, junk, junk, junk, junk, junk, junk]) ?_ ?_
  · by_cases hc3 : (200 : Int) < (s.length : Int)
    · (repeat (first | refine yw ?_ | ((first | apply yd | apply ye); simp (disch := first|exact zz|fail) only [go_sem, dec_t hlong, dec_t hc3, dec_f (show ¬ (s.length : Int) ≤ 60000 by omega), dec_f hc2]; with_reducible rfl)))
      exact ⟨rfl, by simp [forget]⟩
    · (repeat (first | refine yw ?_ | ((first | apply yd | apply ye); simp (disch := first|exact zz|fail) only [go_sem, dec_t hlong, dec_f hc3, dec_f hc2]; with_reducible rfl)))
      exact ⟨rfl, by simp [forget]⟩
  rintro e J ⟨rfl, rfl⟩
  (refine yg ?_)
  refine cond_f rfl ?_
  (refine yg ?_)
  refine aops_call ((copyInts_u hl hb).mono fun v1 H1 ⟨i1, x1⟩ => ?_)
  (refine yg ?_)
  (refine aops_call_to (formatPath_c (hs.ext x1) i1 (by omega) hw) ?_)
  (refine yg ?_)
  refine aops_call ((parsePath_c (hs.ext x1) (l := s) hs5).mono fun v2 H2 h => ?_)
  obtain ⟨sv, rfl, iv, x2⟩ := h.use
  have x02 := x1.trans x2
  (refine yg ?_)
  refine aops_call ((rParsePath_c (l := s) hs5).mono fun v3 H3 h => ?_)
  obtain ⟨sr, rfl, ir, x3⟩ := h.use
  have x03 := x02.trans x3
  have hpl := parsePathL_len s
  (refine yg ?_)
  (refine aops_call_to (rFormatPath_c (hl.ext x03) (by omega) hw) ?_)
  (repeat (first | refine yw ?_ | ((first | apply yd | apply ye); simp (disch := first|exact zz|fail) only [go_sem, dec_f (show ¬ pathT l ≠ pathT l from fun h => h rfl), dec_f (show ¬ (parsePathL s).2 ≠ (parsePathL s).2 from fun h => h rfl)]; with_reducible rfl)))
  (refine aops_call_to (bints_c (iv.ext x3) ir (by omega) (by omega)) ?_)
  (refine yg ?_)
  refine cond_f rfl ?_
  (refine yg ?_)
  (refine aops_call_to (refPositionsErr_c (hl.ext x03) hb) ?_)
  by_cases hd : positionsErrL l = 0
  rotate_left 1
  · (repeat (first | refine yw ?_ | ((first | apply yd | apply ye); simp (disch := first|exact zz|fail) only [go_sem, dec_t (show positionsErrL l ≠ 0 from hd)]; with_reducible rfl)))
    refine cond_t rfl ?_
    (refine yg ?_)
    exact fin_1 rfl
  rw [hd]
  (refine yg ?_)
  refine cond_f rfl ?_
  (refine yg ?_)
  refine aops_call ((parsePath_c (hs.ext x03) (l := pathT l) (by omega)).mono fun v4 H4 h => ?_)
  obtain ⟨sw, rfl, iw, x4⟩ := h.use
  rw [parse_path hd] at iw ⊢
  (refine yg ?_)
  (refine aops_call_to (bints_c iw (hl.ext (x03.trans x4)) hb hb) ?_)
  (refine yg ?_)
  exact fin_1 rfl
end Go.Lq

namespace Go.Lq
open Go Go.ChangeShapes Go.WideShapes Go.ChangeAt Go.RowKit
open Go.Proofs

set_option maxRecDepth 100000 in
theorem lifted3 (os : Os) (started : os.Started) (X : Type) (enc : TypeId × Value → X) :
    ReturnsInHanded {} Tryz.checked os 3 .any (fun w args => (YtejkpmemicpheabGreatDoor.Rows.grooveStringsSpec.pre enc Tryz.prog Tryz.f3 [] false w args ∧ laidMetH Tryz.prog laidAll w) ∧ sizedMet enc Tryz.prog Tryz.f3 (OpenSpec.ofChange YtejkpmemicpheabGreatDoor.Rows.grooveStringsSpec) false w args)
      (YtejkpmemicpheabGreatDoor.Rows.grooveStringsSpec.post enc Tryz.prog Tryz.f3 false true false false) := by
  refine returnsInHanded_of_change_shaped (C := Tryz.checked) (X := fun w _ => laidMetH Tryz.prog laidAll w) (fun _ _ _ hh h => h.of_heap hh) own_knob started (by kernel_rfl) Tryz.func3
    (ChangeSpec.witness_shaped (enc := enc) (C := Tryz.checked) (os := os) (X := fun w _ => laidMetH Tryz.prog laidAll w) false (World.laidAll Tryz.prog os laidAll) #[.slice none 0 0, .string ⟨#[]⟩] 12 (World.laidAll_os _ _ _) (door_shaped os _) (by kernel_rfl) (by kernel_rfl) (by kernel_rfl) (door_met os _)) ?_
  intro W base args ds gs before hsh hval hW hL
  have hWw := hW
  obtain ⟨p, q, hA, _⟩ := hW
  obtain ⟨m0, t0, u0, hLd⟩ := of_laid hL hsh
  refine (calls_of_law (d := 20) hLd globs glob_at hA (fun j t v h1 h2 => hval j t v (by simpa using h1) (by simpa using h2)) (by kernel_rfl) fun H avs hx h => ?_).mono fun e W' ⟨he, hB⟩ => ?_
  · exact law3 (strH hx) (by rw [show Tryz.f3.params = #[22, 9] from Tryz.params3] at h; exact h)
  · subst he
    exact ⟨_, rfl, law_post (bt := 4) laid_out rfl Tryz.underlying4 (by kernel_rfl) (by kernel_rfl) hWw (fun ds hd => by
      rw [show Tryz.f3.params = #[22, 9] from Tryz.params3] at hd
      match ds, hd with
      | [a, b], _ => rfl) hB⟩

theorem unf3 : Tryz.prog.unfollowed 3 = true := by kernel_rfl
theorem rec3 : Tryz.prog.recurses 3 = true := by kernel_rfl
theorem named3 : Tryz.prog.varsNamed 3 = YtejkpmemicpheabGreatDoor.Rows.grooveStringsRow.named := by kernel_rfl
theorem facts3 : joinedFacts Tryz.prog 3 Tryz.f3 YtejkpmemicpheabGreatDoor.Rows.grooveStringsSpec YtejkpmemicpheabGreatDoor.Rows.grooveStringsRow = true := by
  unfold joinedFacts
  rw [may_enter, stops_heard, maps_rowed, laid_out, lifts_final, make_is, unf3, rec3, named3]
  kernel_rfl
theorem holds3 : YtejkpmemicpheabGreatDoor.Rows.GrooveStringsSaid :=
  OpenClaim.holds_of_wide 3 Tryz.f3 rfl rfl rfl rfl rfl rfl rfl ⟨rfl, rfl, rfl, rfl, rfl⟩ rfl rfl rfl rfl rfl (by kernel_rfl) Tryz.func3 facts3
    (of_decide_eq_true (by kernel_rfl)) (by unfold Func.isWrapper; first | (rw [if_pos (by decide +kernel)]; kernel_rfl) | (rw [if_neg (by decide +kernel)]; exact ⟨rfl, rfl⟩))
    (fun os started H enc _ => lifted3 os started H enc)
end Go.Lq
namespace Go.Proofs.YtejkpmemicpheabGreatDoor
open Go Go.Lq
theorem grooveStrings_proved : Rows.GrooveStringsCardSaid :=
  Claim7.holds_tied_plain_at .later [] [.data, .data, .data, .data, .sentinel, .sentinel, .data, .pinned] true (true, "b6ed69e075042afda5914e78007f13ba12b7d006960e49b0d1e2d8922cba905d") true
    holds3 (fun _ h => by cases h) (by kernel_rfl) (fun _ h => by cases h) grooveStrings_row_tie rfl ⟨rfl, rfl⟩ main_is rfl
    (fun f fn hf hfn => by
      obtain rfl : f = 3 := Option.some.inj ((show Tryz.prog.funcNamed "lacquer/lacquerlaw02.GrooveStrings" = some 3 by kernel_rfl).symm.trans hf) |>.symm
      obtain rfl : fn = Tryz.f3 := (Option.some.inj (Tryz.func3.symm.trans hfn)).symm
      exact ⟨looks0, fun j t ht => by
        rw [Tryz.params3] at ht
        have hm : t ∈ [22, 9] := by simpa using Array.mem_of_getElem? ht
        have hall : ([22, 9].all fun u => !Tryz.prog.wantsStandIn u) = true := by kernel_rfl
        exact (show Tryz.prog.wantsStandIn t = false by simpa using List.all_eq_true.1 hall t hm)⟩)
    (by kernel_rfl)
end Go.Proofs.YtejkpmemicpheabGreatDoor
