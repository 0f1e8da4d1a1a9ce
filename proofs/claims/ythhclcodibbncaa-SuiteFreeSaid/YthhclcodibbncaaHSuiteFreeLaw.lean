/- The law SuiteFree of chapter 13: in the free suite no other key opens, and no other text or signer is verified; without conditions. -/
import Derived.Test.YthhclcodibbncaaHwFr3ToFr3
import Derived.Test.YthhclcodibbncaaRows
import Derived.Test.YthhclcodibbncaaHx7
import Derived.ProofKit
set_option linter.unusedSimpArgs false
set_option linter.unusedVariables false
namespace Go.Proofs.Ythhclcodibbncaa
open Go Go.Sx Go.ChangeShapes Go.WideShapes Go.ChangeAt Go.RowKit
theorem suiteFree_own:ownKnob Try.prog.godebug = none:=by kernel_rfl
theorem suiteFree_laidOut:laidOutB Try.prog = true:=by kernel_rfl
theorem suiteFree_takes:TakesL Try.prog [22,22,23,23] [isArr8 32,isArr8 32,isSl8 1,isSl8 1]:=
 ⟨takes_arr8 (e:=5) (by kernel_rfl) (by kernel_rfl) (by kernel_rfl) (by kernel_rfl),takes_arr8 (e:=5) (by kernel_rfl) (by kernel_rfl) (by kernel_rfl) (by kernel_rfl),takes_sl8 (e:=5) (by kernel_rfl) (by kernel_rfl) (by kernel_rfl),takes_sl8 (e:=5) (by kernel_rfl) (by kernel_rfl) (by kernel_rfl),trivial⟩
set_option maxRecDepth 100000 in
theorem suiteFree_lifted (os:Os) (started:os.Started) (H:Type) (enc:TypeId × Value→H) :
  ReturnsInHanded {} Try.checked os 3 .any (Rows.suiteFreeSpec.pre6 enc Try.prog Try.f3 Rows.suiteFreeRow.domain false) (Rows.suiteFreeSpec.post enc Try.prog Try.f3 false true false false):=by
 refine returnsInHanded_of_change (C:=Try.checked) suiteFree_own started (by kernel_rfl) Try.func3
  (ChangeSpec.witness6 (enc:=enc) (C:=Try.checked) false ⟨#[],#[.agg (Array.replicate 32 (.int .u8 0)),.agg (Array.replicate 32 (.int .u8 0)),.slice none 0 0,.slice none 0 0],[]⟩ 8 (by kernel_rfl) (by kernel_rfl) (by kernel_rfl) (by kernel_rfl)) ?_
 intro W base args ds gs before hval hW hcnd _
 exact law_row (C:=Try.checked) (ts:=[22,22,23,23]) suiteFree_laidOut (by kernel_rfl) (by kernel_rfl) rfl suiteFree_takes
  (fun ds hd=>by match ds,hd with | [_,_,_,_],_=>rfl) (tb:=4) (by kernel_rfl) (by kernel_rfl) suiteFree_runs hval hW
theorem suiteFree_holds:Rows.SuiteFreeSaid:=
 OpenClaim.holds_of_wide 3 Try.f3 rfl rfl rfl rfl rfl rfl rfl ⟨rfl,rfl,rfl,rfl,rfl⟩ rfl rfl rfl rfl rfl (by kernel_rfl) Try.func3 (by kernel_rfl)
  (of_decide_eq_true (by kernel_rfl)) (by unfold Func.isWrapper;first | (rw [if_pos (by decide +kernel)];kernel_rfl) | (rw [if_neg (by decide +kernel)];exact ⟨rfl,rfl⟩))
  (fun os started H enc _=>suiteFree_lifted os started H enc)
#print axioms suiteFree_holds
end Go.Proofs.Ythhclcodibbncaa
