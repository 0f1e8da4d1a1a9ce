/- Any text, locked by any key, is what the reference gives: for every input, without a condition. -/
import Derived.Test.YtgfbbmcdbohbhaaHwCbc10ToCbc10
import Derived.Test.YtgfbbmcdbohbhaaRows
import Derived.Test.YtgfbbmcdbohbhaaHx6
import Derived.ProofKit
set_option linter.unusedSimpArgs false
set_option linter.unusedVariables false
namespace Go.Proofs.Ytgfbbmcdbohbhaa
open Go Go.Sx Go.ChangeShapes Go.WideShapes Go.ChangeAt Go.RowKit

theorem cbcLocks_own : ownKnob Try.prog.godebug = none := by kernel_rfl
theorem cbcLocks_laidOut : laidOutB Try.prog = true := by kernel_rfl

theorem cbcLocks_takes : TakesL Try.prog [22, 23, 36] [isArr8 32, isArr8 16, isSl8 1] :=
  ⟨takes_arr8 (e := 5) (by kernel_rfl) (by kernel_rfl) (by kernel_rfl) (by kernel_rfl), takes_arr8 (e := 5) (by kernel_rfl) (by kernel_rfl) (by kernel_rfl) (by kernel_rfl), takes_sl8 (e := 5) (by kernel_rfl) (by kernel_rfl) (by kernel_rfl), trivial⟩

theorem cbcLocks_lifted (os : Os) (started : os.Started) (H : Type) (enc : TypeId × Value → H) :
    ReturnsInHanded {} Try.checked os 7 .any (Rows.cbcLocksSpec.pre6 enc Try.prog Try.f7 Rows.cbcLocksRow.domain false) (Rows.cbcLocksSpec.post enc Try.prog Try.f7 false true false false) := by
  refine returnsInHanded_of_change (C := Try.checked) cbcLocks_own started (by kernel_rfl) Try.func7
    (ChangeSpec.witness6 (enc := enc) (C := Try.checked) false ⟨#[], #[.agg (Array.replicate 32 (.int .u8 0)), .agg (Array.replicate 16 (.int .u8 0)), .slice none 0 0], []⟩ 8 (by kernel_rfl) (by kernel_rfl) (by kernel_rfl) (by kernel_rfl)) ?_
  intro W base args ds gs before hval hW hcnd _
  exact law_row (C := Try.checked) (ts := [22, 23, 36]) cbcLocks_laidOut (by kernel_rfl) (by kernel_rfl) rfl cbcLocks_takes
    (fun ds hd => by match ds, hd with | [_, _, _], _ => rfl) (tb := 4) (by kernel_rfl) (by kernel_rfl) cbcLocks_runs hval hW

theorem cbcLocks_holds : Rows.CbcLocksSaid :=
  OpenClaim.holds_of_wide 7 Try.f7 rfl rfl rfl rfl rfl rfl rfl ⟨rfl, rfl, rfl, rfl, rfl⟩ rfl rfl rfl rfl rfl (by kernel_rfl) Try.func7 (by kernel_rfl)
    (of_decide_eq_true (by kernel_rfl)) (by unfold Func.isWrapper; first | (rw [if_pos (by decide +kernel)]; kernel_rfl) | (rw [if_neg (by decide +kernel)]; exact ⟨rfl, rfl⟩))
    (fun os started H enc _ => cbcLocks_lifted os started H enc)

#print axioms cbcLocks_holds
end Go.Proofs.Ytgfbbmcdbohbhaa
