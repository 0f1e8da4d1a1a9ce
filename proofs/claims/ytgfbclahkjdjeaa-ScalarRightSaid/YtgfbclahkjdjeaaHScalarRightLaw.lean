/- Right says of a number whether it is below the order, as the document does. -/
import Derived.Test.YtgfbclahkjdjeaaHwSc12ToSc12
import Derived.Test.YtgfbclahkjdjeaaRows
import Derived.Test.YtgfbclahkjdjeaaHx6
import Derived.ProofKit
set_option linter.unusedSimpArgs false
set_option linter.unusedVariables false
namespace Go.Proofs.Ytgfbclahkjdjeaa
open Go Go.Sx Go.ChangeShapes Go.WideShapes Go.ChangeAt Go.RowKit

theorem scalarRight_own : ownKnob Try.prog.godebug = none := by kernel_rfl
theorem scalarRight_laidOut : laidOutB Try.prog = true := by kernel_rfl

theorem scalarRight_takes : TakesL Try.prog [24] [isArr8 32] :=
  ⟨takes_arr8 (e := 5) (by kernel_rfl) (by kernel_rfl) (by kernel_rfl) (by kernel_rfl), trivial⟩

theorem scalarRight_lifted (os : Os) (started : os.Started) (H : Type) (enc : TypeId × Value → H) :
    ReturnsInHanded {} Try.checked os 5 .any (Rows.scalarRightSpec.pre6 enc Try.prog Try.f5 Rows.scalarRightRow.domain false) (Rows.scalarRightSpec.post enc Try.prog Try.f5 false true false false) := by
  refine returnsInHanded_of_change (C := Try.checked) scalarRight_own started (by kernel_rfl) Try.func5
    (ChangeSpec.witness6 (enc := enc) (C := Try.checked) false ⟨#[], #[.agg (Array.replicate 32 (.int .u8 0))], []⟩ 8 (by kernel_rfl) (by kernel_rfl) (by kernel_rfl) (by kernel_rfl)) ?_
  intro W base args ds gs before hval hW hcnd _
  exact law_row (C := Try.checked) (ts := [24]) scalarRight_laidOut (by kernel_rfl) (by kernel_rfl) rfl scalarRight_takes
    (fun ds hd => by match ds, hd with | [_], _ => rfl) (tb := 4) (by kernel_rfl) (by kernel_rfl) scalarRight_runs hval hW

theorem scalarRight_holds : Rows.ScalarRightSaid :=
  OpenClaim.holds_of_wide 5 Try.f5 rfl rfl rfl rfl rfl rfl rfl ⟨rfl, rfl, rfl, rfl, rfl⟩ rfl rfl rfl rfl rfl (by kernel_rfl) Try.func5 (by kernel_rfl)
    (of_decide_eq_true (by kernel_rfl)) (by unfold Func.isWrapper; first | (rw [if_pos (by decide +kernel)]; kernel_rfl) | (rw [if_neg (by decide +kernel)]; exact ⟨rfl, rfl⟩))
    (fun os started H enc _ => scalarRight_lifted os started H enc)

#print axioms scalarRight_holds
end Go.Proofs.Ytgfbclahkjdjeaa
