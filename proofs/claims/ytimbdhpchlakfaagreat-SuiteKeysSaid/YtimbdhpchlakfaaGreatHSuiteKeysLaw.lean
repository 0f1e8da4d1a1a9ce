/- SuiteKeys: secrets, public keys, signers and what is agreed on are the document's, in both suites. -/
import Derived.Test.YtimbdhpchlakfaaGreatHwZa2ToSk3
import Derived.Test.YtimbdhpchlakfaaGreatRows
import Derived.Test.YtimbdhpchlakfaaGreatHx7
import Derived.ProofKit
set_option linter.unusedSimpArgs false
set_option linter.unusedVariables false
open Array (replicate)
namespace Go.Proofs.YtimbdhpchlakfaaGreat
open Go Go.Sx Go.ChangeShapes Go.WideShapes Go.ChangeAt Go.RowKit
theorem qz:ownKnob Tryz.prog.godebug = none:=by kernel_rfl
theorem kW:laidOutB Tryz.prog = true:=by kernel_rfl
theorem nK:yK Tryz.prog [4,22,22,22] [aDR,oM 32,oM 32,oM 32]:=
 ⟨yT (by kernel_rfl),kV (e:=5) (by kernel_rfl) (by kernel_rfl) (by kernel_rfl) (by kernel_rfl),kV (e:=5) (by kernel_rfl) (by kernel_rfl) (by kernel_rfl) (by kernel_rfl),kV (e:=5) (by kernel_rfl) (by kernel_rfl) (by kernel_rfl) (by kernel_rfl),trivial⟩
set_option maxRecDepth 100000 in
theorem mb (os:Os) (started:os.Started) (H:Type) (enc:TypeId × Value->H) :
  ReturnsInHanded {} Tryz.checked os 3 .any (Rows.suiteKeysSpec.pre6 enc Tryz.prog Tryz.f3 Rows.suiteKeysRow.domain false) (Rows.suiteKeysSpec.post enc Tryz.prog Tryz.f3 false true false false):=by
 refine returnsInHanded_of_change (C:=Tryz.checked) qz started (by kernel_rfl) Tryz.func3
  (ChangeSpec.witness6 (enc:=enc) (C:=Tryz.checked) false ⟨#[],#[.bool false,.agg (replicate 32 (.int .u8 0)),.agg (replicate 32 (.int .u8 0)),.agg (replicate 32 (.int .u8 0))],[]⟩ 8 (by kernel_rfl) (by kernel_rfl) (by kernel_rfl) (by kernel_rfl)) ?_
 intro W base args ds gs before hval hW hcnd _
 exact aL6 (C:=Tryz.checked) (ts:=[4,22,22,22]) kW (by kernel_rfl) (by kernel_rfl) rfl nK
  (fun ds hd=>by match ds,hd with | [_,_,_,_],_=>rfl) (tb:=4) (by kernel_rfl) (by kernel_rfl) suiteKeys_runs hval hW
theorem suiteKeys_holds:Rows.SuiteKeysSaid:=
 OpenClaim.holds_of_wide 3 Tryz.f3 rfl rfl rfl rfl rfl rfl rfl ⟨rfl,rfl,rfl,rfl,rfl⟩ rfl rfl rfl rfl rfl (by kernel_rfl) Tryz.func3 (by kernel_rfl)
  (of_decide_eq_true (by kernel_rfl)) (by unfold Func.isWrapper;first | (rw [if_pos (by decide +kernel)];kernel_rfl) | (rw [if_neg (by decide +kernel)];exact ⟨rfl,rfl⟩))
  (fun os started H enc _=>mb os started H enc)
#print axioms suiteKeys_holds
end Go.Proofs.YtimbdhpchlakfaaGreat
