/- The suite's sizes are the document's, for every number. -/
import Derived.Test.YtlbmkjckbfeejaaHwSs7ToSs7
import Derived.Test.YtlbmkjckbfeejaaRows
import Derived.Test.YtlbmkjckbfeejaaHx7
import Derived.ProofKit
set_option linter.unusedSimpArgs false
set_option linter.unusedVariables false
namespace Go.Proofs.Ytlbmkjckbfeejaa
open Go Go.Sx Go.ChangeShapes Go.WideShapes Go.ChangeAt Go.RowKit
theorem suiteSizes_own:ownKnob Try.prog.godebug = none:=by kernel_rfl
theorem suiteSizes_laidOut:laidOutB Try.prog = true:=by kernel_rfl
theorem suiteSizes_takes:TakesL Try.prog [3] [isInt .i64]:=
 ⟨takes_int (by kernel_rfl),trivial⟩
set_option maxRecDepth 100000 in
theorem suiteSizes_lifted (os:Os) (started:os.Started) (H:Type) (enc:TypeId × Value→H) :
  ReturnsInHanded {} Try.checked os 4 .any (Rows.suiteSizesSpec.pre6 enc Try.prog Try.f4 Rows.suiteSizesRow.domain false) (Rows.suiteSizesSpec.post enc Try.prog Try.f4 false true false false):=by
 refine returnsInHanded_of_change (C:=Try.checked) suiteSizes_own started (by kernel_rfl) Try.func4
  (ChangeSpec.witness6 (enc:=enc) (C:=Try.checked) false ⟨#[],#[.int .i64 0],[]⟩ 8 (by kernel_rfl) (by kernel_rfl) (by kernel_rfl) (by kernel_rfl)) ?_
 intro W base args ds gs before hval hW hcnd _
 exact law_row (C:=Try.checked) (ts:=[3]) suiteSizes_laidOut (by kernel_rfl) (by kernel_rfl) rfl suiteSizes_takes
  (fun ds hd=>by match ds,hd with | [_],_=>rfl) (tb:=4) (by kernel_rfl) (by kernel_rfl) suiteSizes_runs hval hW
theorem suiteSizes_holds:Rows.SuiteSizesSaid:=
 OpenClaim.holds_of_wide 4 Try.f4 rfl rfl rfl rfl rfl rfl rfl ⟨rfl,rfl,rfl,rfl,rfl⟩ rfl rfl rfl rfl rfl (by kernel_rfl) Try.func4 (by kernel_rfl)
  (of_decide_eq_true (by kernel_rfl)) (by unfold Func.isWrapper;first | (rw [if_pos (by decide +kernel)];kernel_rfl) | (rw [if_neg (by decide +kernel)];exact ⟨rfl,rfl⟩))
  (fun os started H enc _=>suiteSizes_lifted os started H enc)
#print axioms suiteSizes_holds
end Go.Proofs.Ytlbmkjckbfeejaa
