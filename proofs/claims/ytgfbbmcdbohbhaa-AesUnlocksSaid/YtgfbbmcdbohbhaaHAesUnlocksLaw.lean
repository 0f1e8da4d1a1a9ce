/- What is unlocked is that of which the reference's Lock gives the block: for every input, without a condition. -/
import Derived.Test.YtgfbbmcdbohbhaaHwRef10ToRef10
import Derived.Test.YtgfbbmcdbohbhaaRows
import Derived.Test.YtgfbbmcdbohbhaaHx6
import Derived.ProofKit
set_option linter.unusedSimpArgs false
set_option linter.unusedVariables false
namespace Go.Proofs.Ytgfbbmcdbohbhaa
open Go Go.Sx Go.ChangeShapes Go.WideShapes Go.ChangeAt Go.RowKit

theorem aesUnlocks_own : ownKnob Try.prog.godebug = none := by kernel_rfl
theorem aesUnlocks_laidOut : laidOutB Try.prog = true := by kernel_rfl

theorem aesUnlocks_takes : TakesL Try.prog [22, 23] [isArr8 32, isArr8 16] :=
  ⟨takes_arr8 (e := 5) (by kernel_rfl) (by kernel_rfl) (by kernel_rfl) (by kernel_rfl), takes_arr8 (e := 5) (by kernel_rfl) (by kernel_rfl) (by kernel_rfl) (by kernel_rfl), trivial⟩

theorem aesUnlocks_lifted (os : Os) (started : os.Started) (H : Type) (enc : TypeId × Value → H) :
    ReturnsInHanded {} Try.checked os 5 .any (Rows.aesUnlocksSpec.pre6 enc Try.prog Try.f5 Rows.aesUnlocksRow.domain false) (Rows.aesUnlocksSpec.post enc Try.prog Try.f5 false true false false) := by
  refine returnsInHanded_of_change (C := Try.checked) aesUnlocks_own started (by kernel_rfl) Try.func5
    (ChangeSpec.witness6 (enc := enc) (C := Try.checked) false ⟨#[], #[.agg (Array.replicate 32 (.int .u8 0)), .agg (Array.replicate 16 (.int .u8 0))], []⟩ 8 (by kernel_rfl) (by kernel_rfl) (by kernel_rfl) (by kernel_rfl)) ?_
  intro W base args ds gs before hval hW hcnd _
  exact law_row (C := Try.checked) (ts := [22, 23]) aesUnlocks_laidOut (by kernel_rfl) (by kernel_rfl) rfl aesUnlocks_takes
    (fun ds hd => by match ds, hd with | [_, _], _ => rfl) (tb := 4) (by kernel_rfl) (by kernel_rfl) aesUnlocks_runs hval hW

theorem aesUnlocks_holds : Rows.AesUnlocksSaid :=
  OpenClaim.holds_of_wide 5 Try.f5 rfl rfl rfl rfl rfl rfl rfl ⟨rfl, rfl, rfl, rfl, rfl⟩ rfl rfl rfl rfl rfl (by kernel_rfl) Try.func5 (by kernel_rfl)
    (of_decide_eq_true (by kernel_rfl)) (by unfold Func.isWrapper; first | (rw [if_pos (by decide +kernel)]; kernel_rfl) | (rw [if_neg (by decide +kernel)]; exact ⟨rfl, rfl⟩))
    (fun os started H enc _ => aesUnlocks_lifted os started H enc)

#print axioms aesUnlocks_holds
end Go.Proofs.Ytgfbbmcdbohbhaa
