/- What is sealed is the document's, in both suites, of Size's size, and is opened by its key, for every key and text. -/
import Derived.Test.YtlbmkjckbfeejaaHwSs8ToSs8
import Derived.Test.YtlbmkjckbfeejaaRows
import Derived.Test.YtlbmkjckbfeejaaHx7
import Derived.ProofKit
set_option linter.unusedSimpArgs false
set_option linter.unusedVariables false
namespace Go.Proofs.Ytlbmkjckbfeejaa
open Go Go.Sx Go.ChangeShapes Go.WideShapes Go.ChangeAt Go.RowKit
theorem suiteSeals_own:ownKnob Try.prog.godebug = none:=by kernel_rfl
theorem suiteSeals_laidOut:laidOutB Try.prog = true:=by kernel_rfl
theorem suiteSeals_takes:TakesL Try.prog [4,22,23] [isBool,isArr8 32,isSl8 1]:=
 ⟨takes_bool (by kernel_rfl),takes_arr8 (e:=5) (by kernel_rfl) (by kernel_rfl) (by kernel_rfl) (by kernel_rfl),takes_sl8 (e:=5) (by kernel_rfl) (by kernel_rfl) (by kernel_rfl),trivial⟩
set_option maxRecDepth 100000 in
theorem suiteSeals_lifted (os:Os) (started:os.Started) (H:Type) (enc:TypeId × Value→H) :
  ReturnsInHanded {} Try.checked os 3 .any (Rows.suiteSealsSpec.pre6 enc Try.prog Try.f3 Rows.suiteSealsRow.domain false) (Rows.suiteSealsSpec.post enc Try.prog Try.f3 false true false false):=by
 refine returnsInHanded_of_change (C:=Try.checked) suiteSeals_own started (by kernel_rfl) Try.func3
  (ChangeSpec.witness6 (enc:=enc) (C:=Try.checked) false ⟨#[],#[.bool false,.agg (Array.replicate 32 (.int .u8 0)),.slice none 0 0],[]⟩ 8 (by kernel_rfl) (by kernel_rfl) (by kernel_rfl) (by kernel_rfl)) ?_
 intro W base args ds gs before hval hW hcnd _
 exact law_row (C:=Try.checked) (ts:=[4,22,23]) suiteSeals_laidOut (by kernel_rfl) (by kernel_rfl) rfl suiteSeals_takes
  (fun ds hd=>by match ds,hd with | [_,_,_],_=>rfl) (tb:=4) (by kernel_rfl) (by kernel_rfl) suiteSeals_runs hval hW
theorem suiteSeals_holds:Rows.SuiteSealsSaid:=
 OpenClaim.holds_of_wide 3 Try.f3 rfl rfl rfl rfl rfl rfl rfl ⟨rfl,rfl,rfl,rfl,rfl⟩ rfl rfl rfl rfl rfl (by kernel_rfl) Try.func3 (by kernel_rfl)
  (of_decide_eq_true (by kernel_rfl)) (by unfold Func.isWrapper;first | (rw [if_pos (by decide +kernel)];kernel_rfl) | (rw [if_neg (by decide +kernel)];exact ⟨rfl,rfl⟩))
  (fun os started H enc _=>suiteSeals_lifted os started H enc)
#print axioms suiteSeals_holds
end Go.Proofs.Ytlbmkjckbfeejaa
