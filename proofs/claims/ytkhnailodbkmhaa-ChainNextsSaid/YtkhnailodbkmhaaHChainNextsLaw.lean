/- Each next key of a row is the document's, up to its end, in both suites. -/
import Derived.Test.YtkhnailodbkmhaaHwCh17ToCh17
import Derived.Test.YtkhnailodbkmhaaRows
import Derived.Test.YtkhnailodbkmhaaHx7
import Derived.ProofKit
set_option linter.unusedSimpArgs false
set_option linter.unusedVariables false
namespace Go.Proofs.Ytkhnailodbkmhaa
open Go Go.Sx Go.ChangeShapes Go.WideShapes Go.ChangeAt Go.RowKit
theorem chainNexts_own : ownKnob Try.prog.godebug = none := by kernel_rfl
theorem chainNexts_laidOut : laidOutB Try.prog = true := by kernel_rfl
theorem chainNexts_takes : TakesL Try.prog [4, 26, 5] [isBool, isOfStruct (catF [cArr8 32, cU16]), isU8] :=
  ⟨takes_bool (by kernel_rfl), takes_st [(0, 23), (32, 24)] (by kernel_rfl) (by kernel_rfl) ⟨takesC_arr8 (e := 5) (by kernel_rfl) (by kernel_rfl) (by kernel_rfl) (by kernel_rfl), takesC_u16 (by kernel_rfl), trivial⟩, takes_u8 (by kernel_rfl), trivial⟩
set_option maxRecDepth 100000 in
theorem chainNexts_lifted (os : Os) (started : os.Started) (H : Type) (enc : TypeId × Value → H) :
    ReturnsInHanded {} Try.checked os 3 .any (Rows.chainNextsSpec.pre6 enc Try.prog Try.f3 Rows.chainNextsRow.domain false) (Rows.chainNextsSpec.post enc Try.prog Try.f3 false true false false) := by
  refine returnsInHanded_of_change (C := Try.checked) chainNexts_own started (by kernel_rfl) Try.func3
    (ChangeSpec.witness6 (enc := enc) (C := Try.checked) false ⟨#[], #[.bool false, .agg #[.int .u8 0, .int .u8 0, .int .u8 0, .int .u8 0, .int .u8 0, .int .u8 0, .int .u8 0, .int .u8 0, .int .u8 0, .int .u8 0, .int .u8 0, .int .u8 0, .int .u8 0, .int .u8 0, .int .u8 0, .int .u8 0, .int .u8 0, .int .u8 0, .int .u8 0, .int .u8 0, .int .u8 0, .int .u8 0, .int .u8 0, .int .u8 0, .int .u8 0, .int .u8 0, .int .u8 0, .int .u8 0, .int .u8 0, .int .u8 0, .int .u8 0, .int .u8 0, .int .u16 0], .int .u8 0], []⟩ 8 (by kernel_rfl) (by kernel_rfl) (by kernel_rfl) (by kernel_rfl)) ?_
  intro W base args ds gs before hval hW hcnd _
  exact law_row (C := Try.checked) (ts := [4, 26, 5]) chainNexts_laidOut (by kernel_rfl) (by kernel_rfl) rfl chainNexts_takes
    (fun ds hd => by match ds, hd with | [_, _, _], _ => rfl) (tb := 4) (by kernel_rfl) (by kernel_rfl) chainNexts_runs hval hW
theorem chainNexts_holds : Rows.ChainNextsSaid :=
  OpenClaim.holds_of_wide 3 Try.f3 rfl rfl rfl rfl rfl rfl rfl ⟨rfl, rfl, rfl, rfl, rfl⟩ rfl rfl rfl rfl rfl (by kernel_rfl) Try.func3 (by kernel_rfl)
    (of_decide_eq_true (by kernel_rfl)) (by unfold Func.isWrapper; first | (rw [if_pos (by decide +kernel)]; kernel_rfl) | (rw [if_neg (by decide +kernel)]; exact ⟨rfl, rfl⟩))
    (fun os started H enc _ => chainNexts_lifted os started H enc)
#print axioms chainNexts_holds
end Go.Proofs.Ytkhnailodbkmhaa
