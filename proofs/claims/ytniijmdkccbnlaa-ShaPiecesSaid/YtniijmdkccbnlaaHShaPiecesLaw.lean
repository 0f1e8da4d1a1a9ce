/- A hash that is told in pieces is that of all of them, at each piece; asking changes nothing: for every list of pieces. -/
import Derived.Test.YtniijmdkccbnlaaHwSha19ToSha19
import Derived.Test.YtniijmdkccbnlaaRows
import Derived.Test.YtniijmdkccbnlaaHx7
import Derived.ProofKit
set_option linter.unusedSimpArgs false
set_option linter.unusedVariables false
namespace Go.Proofs.Ytniijmdkccbnlaa
open Go Go.Sx Go.ChangeShapes Go.WideShapes Go.ChangeAt Go.RowKit

theorem shaPieces_own : ownKnob Try.prog.godebug = none := by kernel_rfl
theorem shaPieces_laidOut : laidOutB Try.prog = true := by kernel_rfl

theorem shaPieces_takes : TakesL Try.prog [35] [isSlSl] :=
  ⟨takes_slSl (e := 22) (u := 5) (by kernel_rfl) (by kernel_rfl) (by kernel_rfl) (by kernel_rfl) (by kernel_rfl), trivial⟩

theorem shaPieces_lifted (os : Os) (started : os.Started) (H : Type) (enc : TypeId × Value → H) :
    ReturnsInHanded {} Try.checked os 9 .any (Rows.shaPiecesSpec.pre6 enc Try.prog Try.f9 Rows.shaPiecesRow.domain false) (Rows.shaPiecesSpec.post enc Try.prog Try.f9 false true false false) := by
  refine returnsInHanded_of_change (C := Try.checked) shaPieces_own started (by kernel_rfl) Try.func9
    (ChangeSpec.witness6 (enc := enc) (C := Try.checked) false ⟨#[], #[.slice none 0 0], []⟩ 8 (by kernel_rfl) (by kernel_rfl) (by kernel_rfl) (by kernel_rfl)) ?_
  intro W base args ds gs before hval hW hcnd _
  exact law_row (C := Try.checked) (ts := [35]) shaPieces_laidOut (by kernel_rfl) (by kernel_rfl) rfl shaPieces_takes
    (fun ds hd => by match ds, hd with | [_], _ => rfl) (tb := 4) (by kernel_rfl) (by kernel_rfl) shaPieces_runs hval hW

theorem shaPieces_holds : Rows.ShaPiecesSaid :=
  OpenClaim.holds_of_wide 9 Try.f9 rfl rfl rfl rfl rfl rfl rfl ⟨rfl, rfl, rfl, rfl, rfl⟩ rfl rfl rfl rfl rfl (by kernel_rfl) Try.func9 (by kernel_rfl)
    (of_decide_eq_true (by kernel_rfl)) (by unfold Func.isWrapper; first | (rw [if_pos (by decide +kernel)]; kernel_rfl) | (rw [if_neg (by decide +kernel)]; exact ⟨rfl, rfl⟩))
    (fun os started H enc _ => shaPieces_lifted os started H enc)

#print axioms shaPieces_holds
end Go.Proofs.Ytniijmdkccbnlaa
