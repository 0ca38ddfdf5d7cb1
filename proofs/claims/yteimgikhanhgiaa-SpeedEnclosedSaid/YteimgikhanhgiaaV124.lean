/- SpeedEnclosed is proved: for every input that can be read the law returns true, and each argument reads afterwards as it read before; nothing is asked of package variables. -/
import Derived.Test.YteimgikhanhgiaaV123
set_option linter.unusedSimpArgs false
set_option linter.unnecessarySimpa false
set_option linter.unusedVariables false
set_option linter.unusedSectionVars false
set_option maxRecDepth 100000
namespace Go.Lq
open Go Go.ChangeShapes Go.WideShapes Go.ChangeAt Go.RowKit
open Go.Proofs

set_option maxRecDepth 100000 in
theorem lifted12 (os : Os) (started : os.Started) (X : Type) (enc : TypeId × Value → X) :
    ReturnsInHanded {} Try.checked os 12 .any (Yteimgikhanhgiaa.Rows.speedEnclosedSpec.pre6 enc Try.prog Try.f12 [] false) (Yteimgikhanhgiaa.Rows.speedEnclosedSpec.post enc Try.prog Try.f12 false true false false) := by
  refine returnsInHanded_of_plain_shaped (C := Try.checked) own_knob started (by kernel_rfl) Try.func12
    (ChangeSpec.witness6 (enc := enc) (C := Try.checked) false ⟨#[], #[.agg #[.int .i64 0, .int .i64 0, .slice none 0 0], .agg #[.slice none 0 0], .agg #[.int .i64 0, .int .i64 0]], []⟩ 12 (by kernel_rfl) (by kernel_rfl) (by kernel_rfl) (by kernel_rfl)) ?_
  intro W base args ds gs before hsh hval hW
  have hWw := hW
  obtain ⟨p, q, hA, _⟩ := hW
  refine (calls_of_law (d := 20) (of_shaped hsh) globs glob_at hA (fun j t v h1 h2 => hval j t v (by simpa using h1) (by simpa using h2)) (by kernel_rfl) fun H avs hx h => ?_).mono fun e W' ⟨he, hB⟩ => ?_
  · exact law12 (by rw [show Try.f12.params = #[26, 42, 70] from Try.params12] at h; exact h)
  · subst he
    exact ⟨_, rfl, law_post (bt := 4) laid_out rfl Try.underlying4 (by kernel_rfl) (by kernel_rfl) hWw (fun ds hd => by
      rw [show Try.f12.params = #[26, 42, 70] from Try.params12] at hd
      match ds, hd with
      | [a, b, c], _ => rfl) hB⟩
theorem unf12 : Try.prog.unfollowed 12 = true := by kernel_rfl
theorem rec12 : Try.prog.recurses 12 = true := by kernel_rfl
theorem named12 : Try.prog.varsNamed 12 = Yteimgikhanhgiaa.Rows.speedEnclosedRow.named := by kernel_rfl
theorem facts12 : joinedFacts Try.prog 12 Try.f12 Yteimgikhanhgiaa.Rows.speedEnclosedSpec Yteimgikhanhgiaa.Rows.speedEnclosedRow = true := by
  unfold joinedFacts
  rw [may_enter, stops_heard, maps_rowed, laid_out, lifts_final, make_is, unf12, rec12, named12]
  kernel_rfl
theorem holds12 : Yteimgikhanhgiaa.Rows.SpeedEnclosedSaid :=
  OpenClaim.holds_of_wide 12 Try.f12 rfl rfl rfl rfl rfl rfl rfl ⟨rfl, rfl, rfl, rfl, rfl⟩ rfl rfl rfl rfl rfl (by kernel_rfl) Try.func12 facts12
    (of_decide_eq_true (by kernel_rfl)) (by unfold Func.isWrapper; first | (rw [if_pos (by decide +kernel)]; kernel_rfl) | (rw [if_neg (by decide +kernel)]; exact ⟨rfl, rfl⟩))
    (fun os started H enc _ => lifted12 os started H enc)
end Go.Lq
namespace Go.Proofs.Yteimgikhanhgiaa
open Go Go.Lq
theorem speedEnclosed_proved : Rows.SpeedEnclosedSaid := holds12
end Go.Proofs.Yteimgikhanhgiaa
