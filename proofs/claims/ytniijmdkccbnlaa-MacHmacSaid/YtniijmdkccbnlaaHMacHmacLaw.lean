/- HMAC of any key and text is the document's. -/
import Derived.Test.YtniijmdkccbnlaaHwMac6ToMac6
import Derived.Test.YtniijmdkccbnlaaRows
import Derived.Test.YtniijmdkccbnlaaHx6
import Derived.ProofKit
set_option linter.unusedSimpArgs false
set_option linter.unusedVariables false
namespace Go.Proofs.Ytniijmdkccbnlaa
open Go Go.Sx Go.ChangeShapes Go.WideShapes Go.ChangeAt Go.RowKit

theorem macHmac_own : ownKnob Try.prog.godebug = none := by kernel_rfl
theorem macHmac_laidOut : laidOutB Try.prog = true := by kernel_rfl

theorem macHmac_takes : TakesL Try.prog [22, 22] [isSl8 1, isSl8 1] :=
  ⟨takes_sl8 (e := 5) (by kernel_rfl) (by kernel_rfl) (by kernel_rfl), takes_sl8 (e := 5) (by kernel_rfl) (by kernel_rfl) (by kernel_rfl), trivial⟩

theorem macHmac_lifted (os : Os) (started : os.Started) (H : Type) (enc : TypeId × Value → H) :
    ReturnsInHanded {} Try.checked os 3 .any (Rows.macHmacSpec.pre6 enc Try.prog Try.f3 Rows.macHmacRow.domain false) (Rows.macHmacSpec.post enc Try.prog Try.f3 false true false false) := by
  refine returnsInHanded_of_change (C := Try.checked) macHmac_own started (by kernel_rfl) Try.func3
    (ChangeSpec.witness6 (enc := enc) (C := Try.checked) false ⟨#[], #[.slice none 0 0, .slice none 0 0], []⟩ 8 (by kernel_rfl) (by kernel_rfl) (by kernel_rfl) (by kernel_rfl)) ?_
  intro W base args ds gs before hval hW hcnd _
  exact law_row (C := Try.checked) (ts := [22, 22]) macHmac_laidOut (by kernel_rfl) (by kernel_rfl) rfl macHmac_takes
    (fun ds hd => by match ds, hd with | [_, _], _ => rfl) (tb := 4) (by kernel_rfl) (by kernel_rfl) macHmac_runs hval hW

theorem macHmac_holds : Rows.MacHmacSaid :=
  OpenClaim.holds_of_wide 3 Try.f3 rfl rfl rfl rfl rfl rfl rfl ⟨rfl, rfl, rfl, rfl, rfl⟩ rfl rfl rfl rfl rfl (by kernel_rfl) Try.func3 (by kernel_rfl)
    (of_decide_eq_true (by kernel_rfl)) (by unfold Func.isWrapper; first | (rw [if_pos (by decide +kernel)]; kernel_rfl) | (rw [if_neg (by decide +kernel)]; exact ⟨rfl, rfl⟩))
    (fun os started H enc _ => macHmac_lifted os started H enc)

#print axioms macHmac_holds
end Go.Proofs.Ytniijmdkccbnlaa
