/- Whether bytes are the same is told. -/
import Derived.Test.YtniijmdkccbnlaaHwMac6ToMac6
import Derived.Test.YtniijmdkccbnlaaRows
import Derived.Test.YtniijmdkccbnlaaHx6
import Derived.ProofKit
set_option linter.unusedSimpArgs false
set_option linter.unusedVariables false
namespace Go.Proofs.Ytniijmdkccbnlaa
open Go Go.Sx Go.ChangeShapes Go.WideShapes Go.ChangeAt Go.RowKit

theorem macSame_own : ownKnob Try.prog.godebug = none := by kernel_rfl
theorem macSame_laidOut : laidOutB Try.prog = true := by kernel_rfl

theorem macSame_takes : TakesL Try.prog [22, 22] [isSl8 1, isSl8 1] :=
  ⟨takes_sl8 (e := 5) (by kernel_rfl) (by kernel_rfl) (by kernel_rfl), takes_sl8 (e := 5) (by kernel_rfl) (by kernel_rfl) (by kernel_rfl), trivial⟩

theorem macSame_lifted (os : Os) (started : os.Started) (H : Type) (enc : TypeId × Value → H) :
    ReturnsInHanded {} Try.checked os 6 .any (Rows.macSameSpec.pre6 enc Try.prog Try.f6 Rows.macSameRow.domain false) (Rows.macSameSpec.post enc Try.prog Try.f6 false true false false) := by
  refine returnsInHanded_of_change (C := Try.checked) macSame_own started (by kernel_rfl) Try.func6
    (ChangeSpec.witness6 (enc := enc) (C := Try.checked) false ⟨#[], #[.slice none 0 0, .slice none 0 0], []⟩ 8 (by kernel_rfl) (by kernel_rfl) (by kernel_rfl) (by kernel_rfl)) ?_
  intro W base args ds gs before hval hW hcnd _
  exact law_row (C := Try.checked) (ts := [22, 22]) macSame_laidOut (by kernel_rfl) (by kernel_rfl) rfl macSame_takes
    (fun ds hd => by match ds, hd with | [_, _], _ => rfl) (tb := 4) (by kernel_rfl) (by kernel_rfl) macSame_runs hval hW

theorem macSame_holds : Rows.MacSameSaid :=
  OpenClaim.holds_of_wide 6 Try.f6 rfl rfl rfl rfl rfl rfl rfl ⟨rfl, rfl, rfl, rfl, rfl⟩ rfl rfl rfl rfl rfl (by kernel_rfl) Try.func6 (by kernel_rfl)
    (of_decide_eq_true (by kernel_rfl)) (by unfold Func.isWrapper; first | (rw [if_pos (by decide +kernel)]; kernel_rfl) | (rw [if_neg (by decide +kernel)]; exact ⟨rfl, rfl⟩))
    (fun os started H enc _ => macSame_lifted os started H enc)

#print axioms macSame_holds
end Go.Proofs.Ytniijmdkccbnlaa
