/- AesBack: what was locked is unlocked as it was, and the other way round, for every key and every block; no condition. -/
import Derived.Test.YtgfbbmcdbohbhaaHwAesBackLaw7
import Derived.Test.YtgfbbmcdbohbhaaRows
import Derived.Test.YtgfbbmcdbohbhaaHx6
import Derived.ProofKit
set_option linter.unusedSimpArgs false
set_option linter.unusedVariables false
namespace Go.Proofs.Ytgfbbmcdbohbhaa
open Go Go.Sx Go.ChangeShapes Go.WideShapes Go.ChangeAt Go.RowKit

theorem aesBack_own : ownKnob Try.prog.godebug = none := by kernel_rfl
theorem aesBack_laidOut : laidOutB Try.prog = true := by kernel_rfl

theorem aesBack_takes : TakesL Try.prog [22, 23] [isArr8 32, isArr8 16] :=
  ⟨takes_arr8 (e := 5) (by kernel_rfl) (by kernel_rfl) (by kernel_rfl) (by kernel_rfl), takes_arr8 (e := 5) (by kernel_rfl) (by kernel_rfl) (by kernel_rfl) (by kernel_rfl), trivial⟩

theorem aesBack_lifted (os : Os) (started : os.Started) (H : Type) (enc : TypeId × Value → H) :
    ReturnsInHanded {} Try.checked os 4 .any (Rows.aesBackSpec.pre6 enc Try.prog Try.f4 Rows.aesBackRow.domain false) (Rows.aesBackSpec.post enc Try.prog Try.f4 false true false false) := by
  refine returnsInHanded_of_change (C := Try.checked) aesBack_own started (by kernel_rfl) Try.func4
    (ChangeSpec.witness6 (enc := enc) (C := Try.checked) false ⟨#[], #[.agg (Array.replicate 32 (.int .u8 0)), .agg (Array.replicate 16 (.int .u8 0))], []⟩ 8 (by kernel_rfl) (by kernel_rfl) (by kernel_rfl) (by kernel_rfl)) ?_
  intro W base args ds gs before hval hW hcnd _
  exact law_row (C := Try.checked) (ts := [22, 23]) aesBack_laidOut (by kernel_rfl) (by kernel_rfl) rfl aesBack_takes
    (fun ds hd => by match ds, hd with | [_, _], _ => rfl) (tb := 4) (by kernel_rfl) (by kernel_rfl) aesBack_runs hval hW

theorem aesBack_holds : Rows.AesBackSaid :=
  OpenClaim.holds_of_wide 4 Try.f4 rfl rfl rfl rfl rfl rfl rfl ⟨rfl, rfl, rfl, rfl, rfl⟩ rfl rfl rfl rfl rfl (by kernel_rfl) Try.func4 (by kernel_rfl)
    (of_decide_eq_true (by kernel_rfl)) (by unfold Func.isWrapper; first | (rw [if_pos (by decide +kernel)]; kernel_rfl) | (rw [if_neg (by decide +kernel)]; exact ⟨rfl, rfl⟩))
    (fun os started H enc _ => aesBack_lifted os started H enc)

#print axioms aesBack_holds
end Go.Proofs.Ytgfbbmcdbohbhaa
