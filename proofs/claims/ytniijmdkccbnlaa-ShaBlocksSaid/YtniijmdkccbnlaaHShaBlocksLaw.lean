/- Bytes at a block's end, and beside it, have the document's hashes. -/
import Derived.Test.YtniijmdkccbnlaaHwSha17ToSha17
import Derived.Test.YtniijmdkccbnlaaRows
import Derived.Test.YtniijmdkccbnlaaHx6
import Derived.ProofKit
set_option linter.unusedSimpArgs false
set_option linter.unusedVariables false
namespace Go.Proofs.Ytniijmdkccbnlaa
open Go Go.Sx Go.ChangeShapes Go.WideShapes Go.ChangeAt Go.RowKit

theorem shaBlocks_own : ownKnob Try.prog.godebug = none := by kernel_rfl
theorem shaBlocks_laidOut : laidOutB Try.prog = true := by kernel_rfl

theorem shaBlocks_takes : TakesL Try.prog [5, 5, 5] [isU8, isU8, isU8] :=
  ⟨takes_u8 (by kernel_rfl), takes_u8 (by kernel_rfl), takes_u8 (by kernel_rfl), trivial⟩

theorem shaBlocks_lifted (os : Os) (started : os.Started) (H : Type) (enc : TypeId × Value → H) :
    ReturnsInHanded {} Try.checked os 10 .any (Rows.shaBlocksSpec.pre6 enc Try.prog Try.f10 Rows.shaBlocksRow.domain false) (Rows.shaBlocksSpec.post enc Try.prog Try.f10 false true false false) := by
  refine returnsInHanded_of_change (C := Try.checked) shaBlocks_own started (by kernel_rfl) Try.func10
    (ChangeSpec.witness6 (enc := enc) (C := Try.checked) false ⟨#[], #[.int .u8 0, .int .u8 0, .int .u8 0], []⟩ 8 (by kernel_rfl) (by kernel_rfl) (by kernel_rfl) (by kernel_rfl)) ?_
  intro W base args ds gs before hval hW hcnd _
  exact law_row (C := Try.checked) (ts := [5, 5, 5]) shaBlocks_laidOut (by kernel_rfl) (by kernel_rfl) rfl shaBlocks_takes
    (fun ds hd => by match ds, hd with | [_, _, _], _ => rfl) (tb := 4) (by kernel_rfl) (by kernel_rfl) shaBlocks_runs hval hW

theorem shaBlocks_holds : Rows.ShaBlocksSaid :=
  OpenClaim.holds_of_wide 10 Try.f10 rfl rfl rfl rfl rfl rfl rfl ⟨rfl, rfl, rfl, rfl, rfl⟩ rfl rfl rfl rfl rfl (by kernel_rfl) Try.func10 (by kernel_rfl)
    (of_decide_eq_true (by kernel_rfl)) (by unfold Func.isWrapper; first | (rw [if_pos (by decide +kernel)]; kernel_rfl) | (rw [if_neg (by decide +kernel)]; exact ⟨rfl, rfl⟩))
    (fun os started H enc _ => shaBlocks_lifted os started H enc)

#print axioms shaBlocks_holds
end Go.Proofs.Ytniijmdkccbnlaa
