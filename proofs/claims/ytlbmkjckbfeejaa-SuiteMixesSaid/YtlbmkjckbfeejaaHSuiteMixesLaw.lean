/- What is mixed is the document's, in both suites, for every label and all parts. -/
import Derived.Test.YtlbmkjckbfeejaaHwSs7ToSs7
import Derived.Test.YtlbmkjckbfeejaaRows
import Derived.Test.YtlbmkjckbfeejaaHx7
import Derived.ProofKit
set_option linter.unusedSimpArgs false
set_option linter.unusedVariables false
namespace Go.Proofs.Ytlbmkjckbfeejaa
open Go Go.Sx Go.ChangeShapes Go.WideShapes Go.ChangeAt Go.RowKit
theorem suiteMixes_own:ownKnob Try.prog.godebug = none:=by kernel_rfl
theorem suiteMixes_laidOut:laidOutB Try.prog = true:=by kernel_rfl
theorem suiteMixes_takes:TakesL Try.prog [4,5,40] [isBool,isU8,isOfSl 1 [(1,.isl 0 0 1 [(0 * 1,.a8 [])])] (cSl8 1)]:=
 ⟨takes_bool (by kernel_rfl),takes_u8 (by kernel_rfl),takes_ofSl (e:=23) (es:=1) (by kernel_rfl) (by kernel_rfl) (by decide) (takesC_slU8 (e:=5) (by kernel_rfl) (by kernel_rfl) (by kernel_rfl)),trivial⟩
set_option maxRecDepth 100000 in
theorem suiteMixes_lifted (os:Os) (started:os.Started) (H:Type) (enc:TypeId × Value→H) :
  ReturnsInHanded {} Try.checked os 5 .any (Rows.suiteMixesSpec.pre6 enc Try.prog Try.f5 Rows.suiteMixesRow.domain false) (Rows.suiteMixesSpec.post enc Try.prog Try.f5 false true false false):=by
 refine returnsInHanded_of_change (C:=Try.checked) suiteMixes_own started (by kernel_rfl) Try.func5
  (ChangeSpec.witness6 (enc:=enc) (C:=Try.checked) false ⟨#[],#[.bool false,.int .u8 0,.slice none 0 0],[]⟩ 8 (by kernel_rfl) (by kernel_rfl) (by kernel_rfl) (by kernel_rfl)) ?_
 intro W base args ds gs before hval hW hcnd _
 exact law_row (C:=Try.checked) (ts:=[4,5,40]) suiteMixes_laidOut (by kernel_rfl) (by kernel_rfl) rfl suiteMixes_takes
  (fun ds hd=>by match ds,hd with | [_,_,_],_=>rfl) (tb:=4) (by kernel_rfl) (by kernel_rfl) suiteMixes_runs hval hW
theorem suiteMixes_holds:Rows.SuiteMixesSaid:=
 OpenClaim.holds_of_wide 5 Try.f5 rfl rfl rfl rfl rfl rfl rfl ⟨rfl,rfl,rfl,rfl,rfl⟩ rfl rfl rfl rfl rfl (by kernel_rfl) Try.func5 (by kernel_rfl)
  (of_decide_eq_true (by kernel_rfl)) (by unfold Func.isWrapper;first | (rw [if_pos (by decide +kernel)];kernel_rfl) | (rw [if_neg (by decide +kernel)];exact ⟨rfl,rfl⟩))
  (fun os started H enc _=>suiteMixes_lifted os started H enc)
#print axioms suiteMixes_holds
end Go.Proofs.Ytlbmkjckbfeejaa
