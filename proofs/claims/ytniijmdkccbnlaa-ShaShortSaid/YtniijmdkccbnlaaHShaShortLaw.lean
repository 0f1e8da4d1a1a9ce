/- SHA-256 of the program is the document's, for any bytes. -/
import Derived.Test.YtniijmdkccbnlaaHwSha16ToSha16
import Derived.Test.YtniijmdkccbnlaaRows
import Derived.Test.YtniijmdkccbnlaaHx6
import Derived.ProofKit
set_option linter.unusedSimpArgs false
set_option linter.unusedVariables false
namespace Go.Proofs.Ytniijmdkccbnlaa
open Go Go.Sx Go.ChangeShapes Go.WideShapes Go.ChangeAt Go.RowKit

theorem shaShort_own : ownKnob Try.prog.godebug = none := by kernel_rfl
theorem shaShort_laidOut : laidOutB Try.prog = true := by kernel_rfl

theorem shaShort_takes : TakesL Try.prog [22] [isSl8 1] :=
  ⟨takes_sl8 (e := 5) (by kernel_rfl) (by kernel_rfl) (by kernel_rfl), trivial⟩

theorem shaShort_lifted (os : Os) (started : os.Started) (H : Type) (enc : TypeId × Value → H) :
    ReturnsInHanded {} Try.checked os 7 .any (Rows.shaShortSpec.pre6 enc Try.prog Try.f7 Rows.shaShortRow.domain false) (Rows.shaShortSpec.post enc Try.prog Try.f7 false true false false) := by
  refine returnsInHanded_of_change (C := Try.checked) shaShort_own started (by kernel_rfl) Try.func7
    (ChangeSpec.witness6 (enc := enc) (C := Try.checked) false ⟨#[], #[.slice none 0 0], []⟩ 8 (by kernel_rfl) (by kernel_rfl) (by kernel_rfl) (by kernel_rfl)) ?_
  intro W base args ds gs before hval hW hcnd _
  exact law_row (C := Try.checked) (ts := [22]) shaShort_laidOut (by kernel_rfl) (by kernel_rfl) rfl shaShort_takes
    (fun ds hd => by match ds, hd with | [_], _ => rfl) (tb := 4) (by kernel_rfl) (by kernel_rfl) shaShort_runs hval hW

theorem shaShort_holds : Rows.ShaShortSaid :=
  OpenClaim.holds_of_wide 7 Try.f7 rfl rfl rfl rfl rfl rfl rfl ⟨rfl, rfl, rfl, rfl, rfl⟩ rfl rfl rfl rfl rfl (by kernel_rfl) Try.func7 (by kernel_rfl)
    (of_decide_eq_true (by kernel_rfl)) (by unfold Func.isWrapper; first | (rw [if_pos (by decide +kernel)]; kernel_rfl) | (rw [if_neg (by decide +kernel)]; exact ⟨rfl, rfl⟩))
    (fun os started H enc _ => shaShort_lifted os started H enc)

#print axioms shaShort_holds
end Go.Proofs.Ytniijmdkccbnlaa
