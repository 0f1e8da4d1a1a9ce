/- HKDF is the document's, whatever it is made of; a shorter one is its beginning. -/
import Derived.Test.YtniijmdkccbnlaaHwMac8ToMac8
import Derived.Test.YtniijmdkccbnlaaRows
import Derived.Test.YtniijmdkccbnlaaHx6
import Derived.ProofKit
set_option linter.unusedSimpArgs false
set_option linter.unusedVariables false
namespace Go.Proofs.Ytniijmdkccbnlaa
open Go Go.Sx Go.ChangeShapes Go.WideShapes Go.ChangeAt Go.RowKit

theorem macHkdf_own : ownKnob Try.prog.godebug = none := by kernel_rfl
theorem macHkdf_laidOut : laidOutB Try.prog = true := by kernel_rfl

theorem macHkdf_takes : TakesL Try.prog [22, 22, 22, 3, 3] [isSl8 1, isSl8 1, isSl8 1, isInt .i64, isInt .i64] :=
  ⟨takes_sl8 (e := 5) (by kernel_rfl) (by kernel_rfl) (by kernel_rfl), takes_sl8 (e := 5) (by kernel_rfl) (by kernel_rfl) (by kernel_rfl), takes_sl8 (e := 5) (by kernel_rfl) (by kernel_rfl) (by kernel_rfl), takes_int (by kernel_rfl), takes_int (by kernel_rfl), trivial⟩

theorem macHkdf_lifted (os : Os) (started : os.Started) (H : Type) (enc : TypeId × Value → H) :
    ReturnsInHanded {} Try.checked os 4 .any (Rows.macHkdfSpec.pre6 enc Try.prog Try.f4 Rows.macHkdfRow.domain false) (Rows.macHkdfSpec.post enc Try.prog Try.f4 false true false false) := by
  refine returnsInHanded_of_change (C := Try.checked) macHkdf_own started (by kernel_rfl) Try.func4
    (ChangeSpec.witness6 (enc := enc) (C := Try.checked) false ⟨#[], #[.slice none 0 0, .slice none 0 0, .slice none 0 0, .int .i64 0, .int .i64 0], []⟩ 8 (by kernel_rfl) (by kernel_rfl) (by kernel_rfl) (by kernel_rfl)) ?_
  intro W base args ds gs before hval hW hcnd _
  exact law_row (C := Try.checked) (ts := [22, 22, 22, 3, 3]) macHkdf_laidOut (by kernel_rfl) (by kernel_rfl) rfl macHkdf_takes
    (fun ds hd => by match ds, hd with | [_, _, _, _, _], _ => rfl) (tb := 4) (by kernel_rfl) (by kernel_rfl) macHkdf_runs hval hW

theorem macHkdf_holds : Rows.MacHkdfSaid :=
  OpenClaim.holds_of_wide 4 Try.f4 rfl rfl rfl rfl rfl rfl rfl ⟨rfl, rfl, rfl, rfl, rfl⟩ rfl rfl rfl rfl rfl (by kernel_rfl) Try.func4 (by kernel_rfl)
    (of_decide_eq_true (by kernel_rfl)) (by unfold Func.isWrapper; first | (rw [if_pos (by decide +kernel)]; kernel_rfl) | (rw [if_neg (by decide +kernel)]; exact ⟨rfl, rfl⟩))
    (fun os started H enc _ => macHkdf_lifted os started H enc)

#print axioms macHkdf_holds
end Go.Proofs.Ytniijmdkccbnlaa
