/- CbcCut: bytes whose number is none of Lock's are refused, for every key, beginning, text and cut; no condition. -/
import Derived.Test.YtgfbbmcdbohbhaaHwCbc6ToCbc6
import Derived.Test.YtgfbbmcdbohbhaaRows
import Derived.Test.YtgfbbmcdbohbhaaHx6
import Derived.ProofKit
set_option linter.unusedSimpArgs false
set_option linter.unusedVariables false
namespace Go.Proofs.Ytgfbbmcdbohbhaa
open Go Go.Sx Go.ChangeShapes Go.WideShapes Go.ChangeAt Go.RowKit

theorem cbcCut_own : ownKnob Try.prog.godebug = none := by kernel_rfl
theorem cbcCut_laidOut : laidOutB Try.prog = true := by kernel_rfl

theorem cbcCut_takes : TakesL Try.prog [22, 23, 36, 3] [isArr8 32, isArr8 16, isSl8 1, isInt .i64] :=
  ⟨takes_arr8 (e := 5) (by kernel_rfl) (by kernel_rfl) (by kernel_rfl) (by kernel_rfl), takes_arr8 (e := 5) (by kernel_rfl) (by kernel_rfl) (by kernel_rfl) (by kernel_rfl), takes_sl8 (e := 5) (by kernel_rfl) (by kernel_rfl) (by kernel_rfl), takes_int (by kernel_rfl), trivial⟩

theorem cbcCut_lifted (os : Os) (started : os.Started) (H : Type) (enc : TypeId × Value → H) :
    ReturnsInHanded {} Try.checked os 10 .any (Rows.cbcCutSpec.pre6 enc Try.prog Try.f10 Rows.cbcCutRow.domain false) (Rows.cbcCutSpec.post enc Try.prog Try.f10 false true false false) := by
  refine returnsInHanded_of_change (C := Try.checked) cbcCut_own started (by kernel_rfl) Try.func10
    (ChangeSpec.witness6 (enc := enc) (C := Try.checked) false ⟨#[], #[.agg (Array.replicate 32 (.int .u8 0)), .agg (Array.replicate 16 (.int .u8 0)), .slice none 0 0, .int .i64 0], []⟩ 8 (by kernel_rfl) (by kernel_rfl) (by kernel_rfl) (by kernel_rfl)) ?_
  intro W base args ds gs before hval hW hcnd _
  exact law_row (C := Try.checked) (ts := [22, 23, 36, 3]) cbcCut_laidOut (by kernel_rfl) (by kernel_rfl) rfl cbcCut_takes
    (fun ds hd => by match ds, hd with | [_, _, _, _], _ => rfl) (tb := 4) (by kernel_rfl) (by kernel_rfl) cbcCut_runs hval hW

theorem cbcCut_holds : Rows.CbcCutSaid :=
  OpenClaim.holds_of_wide 10 Try.f10 rfl rfl rfl rfl rfl rfl rfl ⟨rfl, rfl, rfl, rfl, rfl⟩ rfl rfl rfl rfl rfl (by kernel_rfl) Try.func10 (by kernel_rfl)
    (of_decide_eq_true (by kernel_rfl)) (by unfold Func.isWrapper; first | (rw [if_pos (by decide +kernel)]; kernel_rfl) | (rw [if_neg (by decide +kernel)]; exact ⟨rfl, rfl⟩))
    (fun os started H enc _ => cbcCut_lifted os started H enc)

#print axioms cbcCut_holds
end Go.Proofs.Ytgfbbmcdbohbhaa
