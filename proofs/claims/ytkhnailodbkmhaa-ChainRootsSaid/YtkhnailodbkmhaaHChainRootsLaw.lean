/- Both of the program's chain.Root and the document's Root answer alike, in both suites. -/
import Derived.Test.YtkhnailodbkmhaaHwCh16ToCh16
import Derived.Test.YtkhnailodbkmhaaRows
import Derived.Test.YtkhnailodbkmhaaHx7
import Derived.ProofKit
set_option linter.unusedSimpArgs false
set_option linter.unusedVariables false
namespace Go.Proofs.Ytkhnailodbkmhaa
open Go Go.Sx Go.ChangeShapes Go.WideShapes Go.ChangeAt Go.RowKit
theorem chainRoots_own : ownKnob Try.prog.godebug = none := by kernel_rfl
theorem chainRoots_laidOut : laidOutB Try.prog = true := by kernel_rfl
theorem chainRoots_takes : TakesL Try.prog [4, 22, 22] [isBool, isArr8 32, isArr8 32] :=
  ⟨takes_bool (by kernel_rfl), takes_arr8 (e := 5) (by kernel_rfl) (by kernel_rfl) (by kernel_rfl) (by kernel_rfl), takes_arr8 (e := 5) (by kernel_rfl) (by kernel_rfl) (by kernel_rfl) (by kernel_rfl), trivial⟩
set_option maxRecDepth 100000 in
theorem chainRoots_lifted (os : Os) (started : os.Started) (H : Type) (enc : TypeId × Value → H) :
    ReturnsInHanded {} Try.checked os 8 .any (Rows.chainRootsSpec.pre6 enc Try.prog Try.f8 Rows.chainRootsRow.domain false) (Rows.chainRootsSpec.post enc Try.prog Try.f8 false true false false) := by
  refine returnsInHanded_of_change (C := Try.checked) chainRoots_own started (by kernel_rfl) Try.func8
    (ChangeSpec.witness6 (enc := enc) (C := Try.checked) false ⟨#[], #[.bool false, .agg (Array.replicate 32 (.int .u8 0)), .agg (Array.replicate 32 (.int .u8 0))], []⟩ 8 (by kernel_rfl) (by kernel_rfl) (by kernel_rfl) (by kernel_rfl)) ?_
  intro W base args ds gs before hval hW hcnd _
  exact law_row (C := Try.checked) (ts := [4, 22, 22]) chainRoots_laidOut (by kernel_rfl) (by kernel_rfl) rfl chainRoots_takes
    (fun ds hd => by match ds, hd with | [_, _, _], _ => rfl) (tb := 4) (by kernel_rfl) (by kernel_rfl) chainRoots_runs hval hW
theorem chainRoots_holds : Rows.ChainRootsSaid :=
  OpenClaim.holds_of_wide 8 Try.f8 rfl rfl rfl rfl rfl rfl rfl ⟨rfl, rfl, rfl, rfl, rfl⟩ rfl rfl rfl rfl rfl (by kernel_rfl) Try.func8 (by kernel_rfl)
    (of_decide_eq_true (by kernel_rfl)) (by unfold Func.isWrapper; first | (rw [if_pos (by decide +kernel)]; kernel_rfl) | (rw [if_neg (by decide +kernel)]; exact ⟨rfl, rfl⟩))
    (fun os started H enc _ => chainRoots_lifted os started H enc)
#print axioms chainRoots_holds
end Go.Proofs.Ytkhnailodbkmhaa
