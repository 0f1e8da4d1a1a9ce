/- SHA-512 of the program is the document's, for any bytes. -/
import Derived.Test.YtniijmdkccbnlaaHwSha16ToSha16
import Derived.Test.YtniijmdkccbnlaaRows
import Derived.Test.YtniijmdkccbnlaaHx6
import Derived.ProofKit
set_option linter.unusedSimpArgs false
set_option linter.unusedVariables false
namespace Go.Proofs.Ytniijmdkccbnlaa
open Go Go.Sx Go.ChangeShapes Go.WideShapes Go.ChangeAt Go.RowKit

theorem shaLong_own : ownKnob Try.prog.godebug = none := by kernel_rfl
theorem shaLong_laidOut : laidOutB Try.prog = true := by kernel_rfl

theorem shaLong_takes : TakesL Try.prog [22] [isSl8 1] :=
  ⟨takes_sl8 (e := 5) (by kernel_rfl) (by kernel_rfl) (by kernel_rfl), trivial⟩

theorem shaLong_lifted (os : Os) (started : os.Started) (H : Type) (enc : TypeId × Value → H) :
    ReturnsInHanded {} Try.checked os 8 .any (Rows.shaLongSpec.pre6 enc Try.prog Try.f8 Rows.shaLongRow.domain false) (Rows.shaLongSpec.post enc Try.prog Try.f8 false true false false) := by
  refine returnsInHanded_of_change (C := Try.checked) shaLong_own started (by kernel_rfl) Try.func8
    (ChangeSpec.witness6 (enc := enc) (C := Try.checked) false ⟨#[], #[.slice none 0 0], []⟩ 8 (by kernel_rfl) (by kernel_rfl) (by kernel_rfl) (by kernel_rfl)) ?_
  intro W base args ds gs before hval hW hcnd _
  exact law_row (C := Try.checked) (ts := [22]) shaLong_laidOut (by kernel_rfl) (by kernel_rfl) rfl shaLong_takes
    (fun ds hd => by match ds, hd with | [_], _ => rfl) (tb := 4) (by kernel_rfl) (by kernel_rfl) shaLong_runs hval hW

theorem shaLong_holds : Rows.ShaLongSaid :=
  OpenClaim.holds_of_wide 8 Try.f8 rfl rfl rfl rfl rfl rfl rfl ⟨rfl, rfl, rfl, rfl, rfl⟩ rfl rfl rfl rfl rfl (by kernel_rfl) Try.func8 (by kernel_rfl)
    (of_decide_eq_true (by kernel_rfl)) (by unfold Func.isWrapper; first | (rw [if_pos (by decide +kernel)]; kernel_rfl) | (rw [if_neg (by decide +kernel)]; exact ⟨rfl, rfl⟩))
    (fun os started H enc _ => shaLong_lifted os started H enc)

#print axioms shaLong_holds
end Go.Proofs.Ytniijmdkccbnlaa
