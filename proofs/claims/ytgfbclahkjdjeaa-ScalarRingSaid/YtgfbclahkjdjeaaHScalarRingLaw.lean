/- A factor may be laid on each part of a sum. -/
import Derived.Test.YtgfbclahkjdjeaaHwSc11ToSc11
import Derived.Test.YtgfbclahkjdjeaaRows
import Derived.Test.YtgfbclahkjdjeaaHx6
import Derived.ProofKit
set_option linter.unusedSimpArgs false
set_option linter.unusedVariables false
namespace Go.Proofs.Ytgfbclahkjdjeaa
open Go Go.Sx Go.ChangeShapes Go.WideShapes Go.ChangeAt Go.RowKit

theorem scalarRing_own : ownKnob Try.prog.godebug = none := by kernel_rfl
theorem scalarRing_laidOut : laidOutB Try.prog = true := by kernel_rfl

theorem scalarRing_takes : TakesL Try.prog [24, 24, 24] [isArr8 32, isArr8 32, isArr8 32] :=
  ⟨takes_arr8 (e := 5) (by kernel_rfl) (by kernel_rfl) (by kernel_rfl) (by kernel_rfl), takes_arr8 (e := 5) (by kernel_rfl) (by kernel_rfl) (by kernel_rfl) (by kernel_rfl), takes_arr8 (e := 5) (by kernel_rfl) (by kernel_rfl) (by kernel_rfl) (by kernel_rfl), trivial⟩

theorem scalarRing_lifted (os : Os) (started : os.Started) (H : Type) (enc : TypeId × Value → H) :
    ReturnsInHanded {} Try.checked os 6 .any (Rows.scalarRingSpec.pre6 enc Try.prog Try.f6 Rows.scalarRingRow.domain false) (Rows.scalarRingSpec.post enc Try.prog Try.f6 false true false false) := by
  refine returnsInHanded_of_change (C := Try.checked) scalarRing_own started (by kernel_rfl) Try.func6
    (ChangeSpec.witness6 (enc := enc) (C := Try.checked) false ⟨#[], #[.agg (Array.replicate 32 (.int .u8 0)), .agg (Array.replicate 32 (.int .u8 0)), .agg (Array.replicate 32 (.int .u8 0))], []⟩ 8 (by kernel_rfl) (by kernel_rfl) (by kernel_rfl) (by kernel_rfl)) ?_
  intro W base args ds gs before hval hW hcnd _
  exact law_row (C := Try.checked) (ts := [24, 24, 24]) scalarRing_laidOut (by kernel_rfl) (by kernel_rfl) rfl scalarRing_takes
    (fun ds hd => by match ds, hd with | [_, _, _], _ => rfl) (tb := 4) (by kernel_rfl) (by kernel_rfl) scalarRing_runs hval hW

theorem scalarRing_holds : Rows.ScalarRingSaid :=
  OpenClaim.holds_of_wide 6 Try.f6 rfl rfl rfl rfl rfl rfl rfl ⟨rfl, rfl, rfl, rfl, rfl⟩ rfl rfl rfl rfl rfl (by kernel_rfl) Try.func6 (by kernel_rfl)
    (of_decide_eq_true (by kernel_rfl)) (by unfold Func.isWrapper; first | (rw [if_pos (by decide +kernel)]; kernel_rfl) | (rw [if_neg (by decide +kernel)]; exact ⟨rfl, rfl⟩))
    (fun os started H enc _ => scalarRing_lifted os started H enc)

#print axioms scalarRing_holds
end Go.Proofs.Ytgfbclahkjdjeaa
