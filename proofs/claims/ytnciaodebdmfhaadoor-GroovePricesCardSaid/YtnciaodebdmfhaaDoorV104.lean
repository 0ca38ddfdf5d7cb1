/- GroovePrices is proved: for every input that can be read the law returns true, and each argument reads afterwards as it read before; the package variable groove.sides holds what the program's text lays (the card ties it). -/
import Derived.Test.YtnciaodebdmfhaaDoorV103
set_option linter.unusedSimpArgs false
set_option maxRecDepth 100000
namespace Go.Lq
open Go Go.ChangeShapes Go.WideShapes Go.ChangeAt Go.RowKit
open Go.Proofs

set_option maxRecDepth 100000 in
theorem lifted10 (os : Os) (started : os.Started) (X : Type) (enc : TypeId × Value → X) :
    ReturnsInHanded {} Tryd.checked os 10 .any (fun w args => (YtnciaodebdmfhaaDoor.Rows.groovePricesSpec.pre enc Tryd.prog Tryd.f10 [] false w args ∧ laidMetH Tryd.prog laidAll w) ∧ sizedMet enc Tryd.prog Tryd.f10 (OpenSpec.ofChange YtnciaodebdmfhaaDoor.Rows.groovePricesSpec) false w args)
      (YtnciaodebdmfhaaDoor.Rows.groovePricesSpec.post enc Tryd.prog Tryd.f10 false true false false) := by
  refine returnsInHanded_of_change_and (C := Tryd.checked) (X := fun w _ => laidMetH Tryd.prog laidAll w) (fun _ _ _ hh h => h.of_heap hh) own_knob started (by kernel_rfl) Tryd.func10
    (ChangeSpec.witness_shaped (enc := enc) (C := Tryd.checked) (os := os) (X := fun w _ => laidMetH Tryd.prog laidAll w) false (World.doorLaid Tryd.prog 400 os) #[.agg #[.slice none 0 0, .int .i64 0], .slice none 0 0, .slice none 0 0] 12 rfl (door_shaped os _) (by kernel_rfl) (by kernel_rfl) (by kernel_rfl) (door_met os _)) ?_
  intro W base args ds gs before hval hW _ _ hL _
  have hWw := hW
  obtain ⟨p, q, hA, _⟩ := hW
  refine (calls_of_law (d := 20) (of_laid hL) globs glob_at hA (fun j t v h1 h2 => hval j t v (by simpa using h1) (by simpa using h2)) (by kernel_rfl) fun H avs hx h => ?_).mono fun e W' ⟨he, hB⟩ => ?_
  · exact law10 hx (by rw [show Tryd.f10.params = #[37, 100, 28] from Tryd.params10] at h; exact h)
  · subst he
    exact ⟨_, rfl, law_post (bt := 4) laid_out rfl Tryd.underlying4 (by kernel_rfl) (by kernel_rfl) hWw (fun ds hd => by
      rw [show Tryd.f10.params = #[37, 100, 28] from Tryd.params10] at hd
      match ds, hd with
      | [a, b, c], _ => rfl) hB⟩

theorem holds10 : YtnciaodebdmfhaaDoor.Rows.GroovePricesSaid :=
  OpenClaim.holds_of_wide 10 Tryd.f10 rfl rfl rfl rfl rfl rfl rfl ⟨rfl, rfl, rfl, rfl, rfl⟩ rfl rfl rfl rfl rfl (by kernel_rfl) Tryd.func10 (by kernel_rfl)
    (of_decide_eq_true (by kernel_rfl)) (by unfold Func.isWrapper; first | (rw [if_pos (by decide +kernel)]; kernel_rfl) | (rw [if_neg (by decide +kernel)]; exact ⟨rfl, rfl⟩))
    (fun os started H enc _ => lifted10 os started H enc)
end Go.Lq
namespace Go.Proofs.YtnciaodebdmfhaaDoor
open Go Go.Lq
theorem groovePrices_proved : Rows.GroovePricesCardSaid :=
  Claim7.holds_tied_plain_at .later [] [.data] true (true, "5f68fd69e0af613bfa7fdf941acadd7d0a75623a0094cac3c296381243e153e3") false
    holds10 (fun _ h => by cases h) (by kernel_rfl) (fun _ h => by cases h) groovePrices_row_tie rfl ⟨rfl, rfl⟩ main_is rfl
    (fun f fn hf hfn => by
      obtain rfl : f = 10 := Option.some.inj ((show Tryd.prog.funcNamed "lacquer/lacquerlaw02.GroovePrices" = some 10 by kernel_rfl).symm.trans hf) |>.symm
      obtain rfl : fn = Tryd.f10 := (Option.some.inj (Tryd.func10.symm.trans hfn)).symm
      exact ⟨looks0, fun j t ht => by
        rw [Tryd.params10] at ht
        have hm : t ∈ [37, 100, 28] := by simpa using Array.mem_of_getElem? ht
        have hall : ([37, 100, 28].all fun u => !Tryd.prog.wantsStandIn u) = true := by kernel_rfl
        exact (show Tryd.prog.wantsStandIn t = false by simpa using List.all_eq_true.1 hall t hm)⟩)
    (by kernel_rfl)
end Go.Proofs.YtnciaodebdmfhaaDoor
