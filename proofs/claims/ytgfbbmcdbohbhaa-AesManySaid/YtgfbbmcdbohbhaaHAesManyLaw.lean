/- AesMany: a cipher that has locked other blocks locks the next one as a new one does, for every key and all blocks that can be read; no condition. -/
import Derived.Test.YtgfbbmcdbohbhaaHwAesManyLaw7
import Derived.Test.YtgfbbmcdbohbhaaRows
import Derived.Test.YtgfbbmcdbohbhaaHx6
import Derived.ProofKit
set_option linter.unusedSimpArgs false
set_option linter.unusedVariables false
namespace Go.Proofs.Ytgfbbmcdbohbhaa
open Go Go.Sx Go.ChangeShapes Go.WideShapes Go.ChangeAt Go.RowKit

theorem aesMany_own : ownKnob Try.prog.godebug = none := by kernel_rfl
theorem aesMany_laidOut : laidOutB Try.prog = true := by kernel_rfl

theorem aesMany_takes : TakesL Try.prog [22, 34] [isArr8 32, isSl8 16] :=
  ⟨takes_arr8 (e := 5) (by kernel_rfl) (by kernel_rfl) (by kernel_rfl) (by kernel_rfl), takes_slArr8 (e := 23) (u := 5) (by kernel_rfl) (by kernel_rfl) (by kernel_rfl) (by kernel_rfl) (by kernel_rfl) (by decide), trivial⟩

theorem aesMany_lifted (os : Os) (started : os.Started) (H : Type) (enc : TypeId × Value → H) :
    ReturnsInHanded {} Try.checked os 6 .any (Rows.aesManySpec.pre6 enc Try.prog Try.f6 Rows.aesManyRow.domain false) (Rows.aesManySpec.post enc Try.prog Try.f6 false true false false) := by
  refine returnsInHanded_of_change (C := Try.checked) aesMany_own started (by kernel_rfl) Try.func6
    (ChangeSpec.witness6 (enc := enc) (C := Try.checked) false ⟨#[], #[.agg (Array.replicate 32 (.int .u8 0)), .slice none 0 0], []⟩ 8 (by kernel_rfl) (by kernel_rfl) (by kernel_rfl) (by kernel_rfl)) ?_
  intro W base args ds gs before hval hW hcnd _
  exact law_row (C := Try.checked) (ts := [22, 34]) aesMany_laidOut (by kernel_rfl) (by kernel_rfl) rfl aesMany_takes
    (fun ds hd => by match ds, hd with | [_, _], _ => rfl) (tb := 4) (by kernel_rfl) (by kernel_rfl) aesMany_runs hval hW

theorem aesMany_holds : Rows.AesManySaid :=
  OpenClaim.holds_of_wide 6 Try.f6 rfl rfl rfl rfl rfl rfl rfl ⟨rfl, rfl, rfl, rfl, rfl⟩ rfl rfl rfl rfl rfl (by kernel_rfl) Try.func6 (by kernel_rfl)
    (of_decide_eq_true (by kernel_rfl)) (by unfold Func.isWrapper; first | (rw [if_pos (by decide +kernel)]; kernel_rfl) | (rw [if_neg (by decide +kernel)]; exact ⟨rfl, rfl⟩))
    (fun os started H enc _ => aesMany_lifted os started H enc)

#print axioms aesMany_holds
end Go.Proofs.Ytgfbbmcdbohbhaa
