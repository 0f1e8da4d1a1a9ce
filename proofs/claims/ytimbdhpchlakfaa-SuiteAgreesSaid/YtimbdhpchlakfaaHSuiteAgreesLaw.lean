/- Two who have each the other's public key agree, in both suites, and in the free one who has another secret does not: law13.SuiteAgrees answers true for every input. -/
import Derived.Test.YtimbdhpchlakfaaHwAg2ToAg2
import Derived.Test.YtimbdhpchlakfaaRows
import Derived.Test.YtimbdhpchlakfaaHx8
import Derived.ProofKit
set_option linter.unusedSimpArgs false
set_option linter.unusedVariables false
namespace Go.Proofs.Ytimbdhpchlakfaa
open Go Go.Sx Go.ChangeShapes Go.WideShapes Go.ChangeAt Go.RowKit
theorem suiteAgrees_own:ownKnob Try.prog.godebug = none:=by kernel_rfl
theorem suiteAgrees_laidOut:laidOutB Try.prog = true:=by kernel_rfl
theorem suiteAgrees_takes:TakesL Try.prog [4,22,22,22] [isBool,isArr8 32,isArr8 32,isArr8 32]:=
 ⟨takes_bool (by kernel_rfl),takes_arr8 (e:=5) (by kernel_rfl) (by kernel_rfl) (by kernel_rfl) (by kernel_rfl),takes_arr8 (e:=5) (by kernel_rfl) (by kernel_rfl) (by kernel_rfl) (by kernel_rfl),takes_arr8 (e:=5) (by kernel_rfl) (by kernel_rfl) (by kernel_rfl) (by kernel_rfl),trivial⟩
set_option maxRecDepth 100000 in
theorem suiteAgrees_lifted (os:Os) (started:os.Started) (H:Type) (enc:TypeId × Value→H) :
  ReturnsInHanded {} Try.checked os 3 .any (Rows.suiteAgreesSpec.pre6 enc Try.prog Try.f3 Rows.suiteAgreesRow.domain false) (Rows.suiteAgreesSpec.post enc Try.prog Try.f3 false true false false):=by
 refine returnsInHanded_of_change (C:=Try.checked) suiteAgrees_own started (by kernel_rfl) Try.func3
  (ChangeSpec.witness6 (enc:=enc) (C:=Try.checked) false ⟨#[],#[.bool false,.agg (Array.replicate 32 (.int .u8 0)),.agg (Array.replicate 32 (.int .u8 0)),.agg (Array.replicate 32 (.int .u8 0))],[]⟩ 8 (by kernel_rfl) (by kernel_rfl) (by kernel_rfl) (by kernel_rfl)) ?_
 intro W base args ds gs before hval hW hcnd _
 exact law_row (C:=Try.checked) (ts:=[4,22,22,22]) suiteAgrees_laidOut (by kernel_rfl) (by kernel_rfl) rfl suiteAgrees_takes
  (fun ds hd=>by match ds,hd with | [_,_,_,_],_=>rfl) (tb:=4) (by kernel_rfl) (by kernel_rfl) suiteAgrees_runs hval hW
theorem suiteAgrees_holds:Rows.SuiteAgreesSaid:=
 OpenClaim.holds_of_wide 3 Try.f3 rfl rfl rfl rfl rfl rfl rfl ⟨rfl,rfl,rfl,rfl,rfl⟩ rfl rfl rfl rfl rfl (by kernel_rfl) Try.func3 (by kernel_rfl)
  (of_decide_eq_true (by kernel_rfl)) (by unfold Func.isWrapper;first | (rw [if_pos (by decide +kernel)];kernel_rfl) | (rw [if_neg (by decide +kernel)];exact ⟨rfl,rfl⟩))
  (fun os started H enc _=>suiteAgrees_lifted os started H enc)
#print axioms suiteAgrees_holds
end Go.Proofs.Ytimbdhpchlakfaa
