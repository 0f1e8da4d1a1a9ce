/- Reduce of the program and of the document agree; longer than 64 bytes is refused. -/
import Derived.Test.YtgfbclahkjdjeaaHwSc11ToSc11
import Derived.Test.YtgfbclahkjdjeaaRows
import Derived.Test.YtgfbclahkjdjeaaHx6
import Derived.ProofKit
set_option linter.unusedSimpArgs false
set_option linter.unusedVariables false
namespace Go.Proofs.Ytgfbclahkjdjeaa
open Go Go.Sx Go.ChangeShapes Go.WideShapes Go.ChangeAt Go.RowKit

theorem scalarReduces_own : ownKnob Try.prog.godebug = none := by kernel_rfl
theorem scalarReduces_laidOut : laidOutB Try.prog = true := by kernel_rfl

theorem scalarReduces_takes : TakesL Try.prog [22] [isSl8 1] :=
  ⟨takes_sl8 (e := 5) (by kernel_rfl) (by kernel_rfl) (by kernel_rfl), trivial⟩

theorem scalarReduces_lifted (os : Os) (started : os.Started) (H : Type) (enc : TypeId × Value → H) :
    ReturnsInHanded {} Try.checked os 3 .any (Rows.scalarReducesSpec.pre6 enc Try.prog Try.f3 Rows.scalarReducesRow.domain false) (Rows.scalarReducesSpec.post enc Try.prog Try.f3 false true false false) := by
  refine returnsInHanded_of_change (C := Try.checked) scalarReduces_own started (by kernel_rfl) Try.func3
    (ChangeSpec.witness6 (enc := enc) (C := Try.checked) false ⟨#[], #[.slice none 0 0], []⟩ 8 (by kernel_rfl) (by kernel_rfl) (by kernel_rfl) (by kernel_rfl)) ?_
  intro W base args ds gs before hval hW hcnd _
  exact law_row (C := Try.checked) (ts := [22]) scalarReduces_laidOut (by kernel_rfl) (by kernel_rfl) rfl scalarReduces_takes
    (fun ds hd => by match ds, hd with | [_], _ => rfl) (tb := 4) (by kernel_rfl) (by kernel_rfl) scalarReduces_runs hval hW

theorem scalarReduces_holds : Rows.ScalarReducesSaid :=
  OpenClaim.holds_of_wide 3 Try.f3 rfl rfl rfl rfl rfl rfl rfl ⟨rfl, rfl, rfl, rfl, rfl⟩ rfl rfl rfl rfl rfl (by kernel_rfl) Try.func3 (by kernel_rfl)
    (of_decide_eq_true (by kernel_rfl)) (by unfold Func.isWrapper; first | (rw [if_pos (by decide +kernel)]; kernel_rfl) | (rw [if_neg (by decide +kernel)]; exact ⟨rfl, rfl⟩))
    (fun os started H enc _ => scalarReduces_lifted os started H enc)

#print axioms scalarReduces_holds
end Go.Proofs.Ytgfbclahkjdjeaa
