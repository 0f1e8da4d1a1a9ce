/- CbcSizes: sizes are the document's, for every number; no condition. -/
import Derived.Test.YtgfbbmcdbohbhaaHwCbcSizesLaw10
import Derived.Test.YtgfbbmcdbohbhaaRows
import Derived.Test.YtgfbbmcdbohbhaaHx6
import Derived.ProofKit
set_option linter.unusedSimpArgs false
set_option linter.unusedVariables false
namespace Go.Proofs.Ytgfbbmcdbohbhaa
open Go Go.Sx Go.ChangeShapes Go.WideShapes Go.ChangeAt Go.RowKit

theorem cbcSizes_own : ownKnob Try.prog.godebug = none := by kernel_rfl
theorem cbcSizes_laidOut : laidOutB Try.prog = true := by kernel_rfl

theorem cbcSizes_takes : TakesL Try.prog [3] [isInt .i64] :=
  ⟨takes_int (by kernel_rfl), trivial⟩

theorem cbcSizes_lifted (os : Os) (started : os.Started) (H : Type) (enc : TypeId × Value → H) :
    ReturnsInHanded {} Try.checked os 11 .any (Rows.cbcSizesSpec.pre6 enc Try.prog Try.f11 Rows.cbcSizesRow.domain false) (Rows.cbcSizesSpec.post enc Try.prog Try.f11 false true false false) := by
  refine returnsInHanded_of_change (C := Try.checked) cbcSizes_own started (by kernel_rfl) Try.func11
    (ChangeSpec.witness6 (enc := enc) (C := Try.checked) false ⟨#[], #[.int .i64 0], []⟩ 8 (by kernel_rfl) (by kernel_rfl) (by kernel_rfl) (by kernel_rfl)) ?_
  intro W base args ds gs before hval hW hcnd _
  exact law_row (C := Try.checked) (ts := [3]) cbcSizes_laidOut (by kernel_rfl) (by kernel_rfl) rfl cbcSizes_takes
    (fun ds hd => by match ds, hd with | [_], _ => rfl) (tb := 4) (by kernel_rfl) (by kernel_rfl) cbcSizes_runs hval hW

theorem cbcSizes_holds : Rows.CbcSizesSaid :=
  OpenClaim.holds_of_wide 11 Try.f11 rfl rfl rfl rfl rfl rfl rfl ⟨rfl, rfl, rfl, rfl, rfl⟩ rfl rfl rfl rfl rfl (by kernel_rfl) Try.func11 (by kernel_rfl)
    (of_decide_eq_true (by kernel_rfl)) (by unfold Func.isWrapper; first | (rw [if_pos (by decide +kernel)]; kernel_rfl) | (rw [if_neg (by decide +kernel)]; exact ⟨rfl, rfl⟩))
    (fun os started H enc _ => cbcSizes_lifted os started H enc)

#print axioms cbcSizes_holds
end Go.Proofs.Ytgfbbmcdbohbhaa
