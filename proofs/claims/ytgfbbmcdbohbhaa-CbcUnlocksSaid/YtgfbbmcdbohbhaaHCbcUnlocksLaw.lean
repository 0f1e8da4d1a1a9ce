/- Of any bytes what is unlocked is just the text whose Lock by the reference they are; or it is refused and nothing is handed out: for every input, without a condition. -/
import Derived.Test.YtgfbbmcdbohbhaaHwCbc10ToCbc10
import Derived.Test.YtgfbbmcdbohbhaaRows
import Derived.Test.YtgfbbmcdbohbhaaHx6
import Derived.ProofKit
set_option linter.unusedSimpArgs false
set_option linter.unusedVariables false
namespace Go.Proofs.Ytgfbbmcdbohbhaa
open Go Go.Sx Go.ChangeShapes Go.WideShapes Go.ChangeAt Go.RowKit

theorem cbcUnlocks_own : ownKnob Try.prog.godebug = none := by kernel_rfl
theorem cbcUnlocks_laidOut : laidOutB Try.prog = true := by kernel_rfl

theorem cbcUnlocks_takes : TakesL Try.prog [22, 23, 36] [isArr8 32, isArr8 16, isSl8 1] :=
  ⟨takes_arr8 (e := 5) (by kernel_rfl) (by kernel_rfl) (by kernel_rfl) (by kernel_rfl), takes_arr8 (e := 5) (by kernel_rfl) (by kernel_rfl) (by kernel_rfl) (by kernel_rfl), takes_sl8 (e := 5) (by kernel_rfl) (by kernel_rfl) (by kernel_rfl), trivial⟩

theorem cbcUnlocks_lifted (os : Os) (started : os.Started) (H : Type) (enc : TypeId × Value → H) :
    ReturnsInHanded {} Try.checked os 9 .any (Rows.cbcUnlocksSpec.pre6 enc Try.prog Try.f9 Rows.cbcUnlocksRow.domain false) (Rows.cbcUnlocksSpec.post enc Try.prog Try.f9 false true false false) := by
  refine returnsInHanded_of_change (C := Try.checked) cbcUnlocks_own started (by kernel_rfl) Try.func9
    (ChangeSpec.witness6 (enc := enc) (C := Try.checked) false ⟨#[], #[.agg (Array.replicate 32 (.int .u8 0)), .agg (Array.replicate 16 (.int .u8 0)), .slice none 0 0], []⟩ 8 (by kernel_rfl) (by kernel_rfl) (by kernel_rfl) (by kernel_rfl)) ?_
  intro W base args ds gs before hval hW hcnd _
  exact law_row (C := Try.checked) (ts := [22, 23, 36]) cbcUnlocks_laidOut (by kernel_rfl) (by kernel_rfl) rfl cbcUnlocks_takes
    (fun ds hd => by match ds, hd with | [_, _, _], _ => rfl) (tb := 4) (by kernel_rfl) (by kernel_rfl) cbcUnlocks_runs hval hW

theorem cbcUnlocks_holds : Rows.CbcUnlocksSaid :=
  OpenClaim.holds_of_wide 9 Try.f9 rfl rfl rfl rfl rfl rfl rfl ⟨rfl, rfl, rfl, rfl, rfl⟩ rfl rfl rfl rfl rfl (by kernel_rfl) Try.func9 (by kernel_rfl)
    (of_decide_eq_true (by kernel_rfl)) (by unfold Func.isWrapper; first | (rw [if_pos (by decide +kernel)]; kernel_rfl) | (rw [if_neg (by decide +kernel)]; exact ⟨rfl, rfl⟩))
    (fun os started H enc _ => cbcUnlocks_lifted os started H enc)

#print axioms cbcUnlocks_holds
end Go.Proofs.Ytgfbbmcdbohbhaa
