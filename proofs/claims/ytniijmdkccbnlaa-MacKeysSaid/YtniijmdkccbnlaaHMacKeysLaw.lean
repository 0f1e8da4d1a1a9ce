/- Bytes 0 behind a key, and a long key's hash in its place, change nothing. -/
import Derived.Test.YtniijmdkccbnlaaHwMac7ToMac7
import Derived.Test.YtniijmdkccbnlaaRows
import Derived.Test.YtniijmdkccbnlaaHx6
import Derived.ProofKit
set_option linter.unusedSimpArgs false
set_option linter.unusedVariables false
namespace Go.Proofs.Ytniijmdkccbnlaa
open Go Go.Sx Go.ChangeShapes Go.WideShapes Go.ChangeAt Go.RowKit

theorem macKeys_own : ownKnob Try.prog.godebug = none := by kernel_rfl
theorem macKeys_laidOut : laidOutB Try.prog = true := by kernel_rfl

theorem macKeys_takes : TakesL Try.prog [22, 22, 5] [isSl8 1, isSl8 1, isU8] :=
  ⟨takes_sl8 (e := 5) (by kernel_rfl) (by kernel_rfl) (by kernel_rfl), takes_sl8 (e := 5) (by kernel_rfl) (by kernel_rfl) (by kernel_rfl), takes_u8 (by kernel_rfl), trivial⟩

theorem macKeys_lifted (os : Os) (started : os.Started) (H : Type) (enc : TypeId × Value → H) :
    ReturnsInHanded {} Try.checked os 5 .any (Rows.macKeysSpec.pre6 enc Try.prog Try.f5 Rows.macKeysRow.domain false) (Rows.macKeysSpec.post enc Try.prog Try.f5 false true false false) := by
  refine returnsInHanded_of_change (C := Try.checked) macKeys_own started (by kernel_rfl) Try.func5
    (ChangeSpec.witness6 (enc := enc) (C := Try.checked) false ⟨#[], #[.slice none 0 0, .slice none 0 0, .int .u8 0], []⟩ 8 (by kernel_rfl) (by kernel_rfl) (by kernel_rfl) (by kernel_rfl)) ?_
  intro W base args ds gs before hval hW hcnd _
  exact law_row (C := Try.checked) (ts := [22, 22, 5]) macKeys_laidOut (by kernel_rfl) (by kernel_rfl) rfl macKeys_takes
    (fun ds hd => by match ds, hd with | [_, _, _], _ => rfl) (tb := 4) (by kernel_rfl) (by kernel_rfl) macKeys_runs hval hW

theorem macKeys_holds : Rows.MacKeysSaid :=
  OpenClaim.holds_of_wide 5 Try.f5 rfl rfl rfl rfl rfl rfl rfl ⟨rfl, rfl, rfl, rfl, rfl⟩ rfl rfl rfl rfl rfl (by kernel_rfl) Try.func5 (by kernel_rfl)
    (of_decide_eq_true (by kernel_rfl)) (by unfold Func.isWrapper; first | (rw [if_pos (by decide +kernel)]; kernel_rfl) | (rw [if_neg (by decide +kernel)]; exact ⟨rfl, rfl⟩))
    (fun os started H enc _ => macKeys_lifted os started H enc)

#print axioms macKeys_holds
end Go.Proofs.Ytniijmdkccbnlaa
