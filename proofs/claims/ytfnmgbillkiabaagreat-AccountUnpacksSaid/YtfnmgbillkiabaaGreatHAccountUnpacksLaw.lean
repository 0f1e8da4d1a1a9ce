/- AccountUnpacks: what is no account's packing is not read back, and what is read back packs to the same bytes. -/
import Derived.Test.YtfnmgbillkiabaaGreatHwAc9ToAc9
import Derived.Test.YtfnmgbillkiabaaGreatRows
import Derived.Test.YtfnmgbillkiabaaGreatHx8
import Derived.ProofKit
set_option linter.unusedSimpArgs false
set_option linter.unusedVariables false
namespace Go.Proofs.YtfnmgbillkiabaaGreat
open Go Go.Sx Go.ChangeShapes Go.WideShapes Go.ChangeAt Go.RowKit
theorem accountUnpacks_own:ownKnob Tryz.prog.godebug = none:=by kernel_rfl
theorem accountUnpacks_laidOut:laidOutB Tryz.prog = true:=by kernel_rfl
theorem accountUnpacks_takes:TakesL Tryz.prog [46] [isSl8 1]:=
 ⟨takes_sl8 (e:=5) (by kernel_rfl) (by kernel_rfl) (by kernel_rfl),trivial⟩
set_option maxRecDepth 100000 in
theorem accountUnpacks_lifted (os:Os) (started:os.Started) (H:Type) (enc:TypeId × Value->H) :
  ReturnsInHanded {} Tryz.checked os 4 .any (Rows.accountUnpacksSpec.pre6 enc Tryz.prog Tryz.f4 Rows.accountUnpacksRow.domain false) (Rows.accountUnpacksSpec.post enc Tryz.prog Tryz.f4 false true false false):=by
 refine returnsInHanded_of_change (C:=Tryz.checked) accountUnpacks_own started (by kernel_rfl) Tryz.func4
  (ChangeSpec.witness6 (enc:=enc) (C:=Tryz.checked) false ⟨#[],#[.slice none 0 0],[]⟩ 8 (by kernel_rfl) (by kernel_rfl) (by kernel_rfl) (by kernel_rfl)) ?_
 intro W base args ds gs before hval hW hcnd _
 exact law_row (C:=Tryz.checked) (ts:=[46]) accountUnpacks_laidOut (by kernel_rfl) (by kernel_rfl) rfl accountUnpacks_takes
  (fun ds hd=>by match ds,hd with | [_],_=>rfl) (tb:=4) (by kernel_rfl) (by kernel_rfl) accountUnpacks_runs hval hW
theorem accountUnpacks_holds:Rows.AccountUnpacksSaid:=
 OpenClaim.holds_of_wide 4 Tryz.f4 rfl rfl rfl rfl rfl rfl rfl ⟨rfl,rfl,rfl,rfl,rfl⟩ rfl rfl rfl rfl rfl (by kernel_rfl) Tryz.func4 (by kernel_rfl)
  (of_decide_eq_true (by kernel_rfl)) (by unfold Func.isWrapper;first | (rw [if_pos (by decide +kernel)];kernel_rfl) | (rw [if_neg (by decide +kernel)];exact ⟨rfl,rfl⟩))
  (fun os started H enc _=>accountUnpacks_lifted os started H enc)
#print axioms accountUnpacks_holds
end Go.Proofs.YtfnmgbillkiabaaGreat
