/- A row that goes on at once, or in two steps, is the same, and keeps the same, in both suites. -/
import Derived.Test.YtkhnailodbkmhaaHwCh20ToCh20
import Derived.Test.YtkhnailodbkmhaaRows
import Derived.Test.YtkhnailodbkmhaaHx7
import Derived.ProofKit
set_option linter.unusedSimpArgs false
set_option linter.unusedVariables false
namespace Go.Proofs.Ytkhnailodbkmhaa
open Go Go.Sx Go.ChangeShapes Go.WideShapes Go.ChangeAt Go.RowKit
theorem chainCut_own : ownKnob Try.prog.godebug = none := by kernel_rfl
theorem chainCut_laidOut : laidOutB Try.prog = true := by kernel_rfl
theorem chainCut_takes : TakesL Try.prog [4, 22, 24, 5, 5] [isBool, isArr8 32, isU16, isU8, isU8] :=
  ⟨takes_bool (by kernel_rfl), takes_arr8 (e := 5) (by kernel_rfl) (by kernel_rfl) (by kernel_rfl) (by kernel_rfl), takes_u16 (by kernel_rfl), takes_u8 (by kernel_rfl), takes_u8 (by kernel_rfl), trivial⟩
set_option maxRecDepth 100000 in
theorem chainCut_lifted (os : Os) (started : os.Started) (H : Type) (enc : TypeId × Value → H) :
    ReturnsInHanded {} Try.checked os 5 .any (Rows.chainCutSpec.pre6 enc Try.prog Try.f5 Rows.chainCutRow.domain false) (Rows.chainCutSpec.post enc Try.prog Try.f5 false true false false) := by
  refine returnsInHanded_of_change (C := Try.checked) chainCut_own started (by kernel_rfl) Try.func5
    (ChangeSpec.witness6 (enc := enc) (C := Try.checked) false ⟨#[], #[.bool false, .agg (Array.replicate 32 (.int .u8 0)), .int .u16 0, .int .u8 0, .int .u8 0], []⟩ 8 (by kernel_rfl) (by kernel_rfl) (by kernel_rfl) (by kernel_rfl)) ?_
  intro W base args ds gs before hval hW hcnd _
  exact law_row (C := Try.checked) (ts := [4, 22, 24, 5, 5]) chainCut_laidOut (by kernel_rfl) (by kernel_rfl) rfl chainCut_takes
    (fun ds hd => by match ds, hd with | [_, _, _, _, _], _ => rfl) (tb := 4) (by kernel_rfl) (by kernel_rfl) chainCut_runs hval hW
theorem chainCut_holds : Rows.ChainCutSaid :=
  OpenClaim.holds_of_wide 5 Try.f5 rfl rfl rfl rfl rfl rfl rfl ⟨rfl, rfl, rfl, rfl, rfl⟩ rfl rfl rfl rfl rfl (by kernel_rfl) Try.func5 (by kernel_rfl)
    (of_decide_eq_true (by kernel_rfl)) (by unfold Func.isWrapper; first | (rw [if_pos (by decide +kernel)]; kernel_rfl) | (rw [if_neg (by decide +kernel)]; exact ⟨rfl, rfl⟩))
    (fun os started H enc _ => chainCut_lifted os started H enc)
#print axioms chainCut_holds
end Go.Proofs.Ytkhnailodbkmhaa
