/- The law RatchetUnpacks of chapter 18: which bytes are a session's is the document's; without conditions. -/
import Derived.Test.YtpkllkbmoodniaaGreatHwRb5ToZb5
import Derived.Test.YtpkllkbmoodniaaGreatRows
import Derived.Test.YtpkllkbmoodniaaGreatHx7
import Derived.ProofKit
set_option linter.unusedSimpArgs false
set_option linter.unusedVariables false
namespace Go.Proofs.YtpkllkbmoodniaaGreat
open Go Go.Sx Go.ChangeShapes Go.WideShapes Go.ChangeAt Go.RowKit
theorem ratchetUnpacks_own:ownKnob Tryz.prog.godebug = none:=by kernel_rfl
theorem ratchetUnpacks_laidOut:laidOutB Tryz.prog = true:=by kernel_rfl
theorem ratchetUnpacks_takes:TakesL Tryz.prog [46] [isSl8 1]:=
 ⟨takes_sl8 (e:=5) (by kernel_rfl) (by kernel_rfl) (by kernel_rfl),trivial⟩
set_option maxRecDepth 100000 in
theorem ratchetUnpacks_lifted (os:Os) (started:os.Started) (H:Type) (enc:TypeId × Value→H) :
  ReturnsInHanded {} Tryz.checked os 5 .any (Rows.ratchetUnpacksSpec.pre6 enc Tryz.prog Tryz.f5 Rows.ratchetUnpacksRow.domain false) (Rows.ratchetUnpacksSpec.post enc Tryz.prog Tryz.f5 false true false false):=by
 refine returnsInHanded_of_change (C:=Tryz.checked) ratchetUnpacks_own started (by kernel_rfl) Tryz.func5
  (ChangeSpec.witness6 (enc:=enc) (C:=Tryz.checked) false ⟨#[],#[.slice none 0 0],[]⟩ 8 (by kernel_rfl) (by kernel_rfl) (by kernel_rfl) (by kernel_rfl)) ?_
 intro W base args ds gs before hval hW hcnd _
 exact law_row (C:=Tryz.checked) (ts:=[46]) ratchetUnpacks_laidOut (by kernel_rfl) (by kernel_rfl) rfl ratchetUnpacks_takes
  (fun ds hd=>by match ds,hd with | [_],_=>rfl) (tb:=4) (by kernel_rfl) (by kernel_rfl) ratchetUnpacks_runs hval hW
theorem ratchetUnpacks_holds:Rows.RatchetUnpacksSaid:=
 OpenClaim.holds_of_wide 5 Tryz.f5 rfl rfl rfl rfl rfl rfl rfl ⟨rfl,rfl,rfl,rfl,rfl⟩ rfl rfl rfl rfl rfl (by kernel_rfl) Tryz.func5 (by kernel_rfl)
  (of_decide_eq_true (by kernel_rfl)) (by unfold Func.isWrapper;first | (rw [if_pos (by decide +kernel)];kernel_rfl) | (rw [if_neg (by decide +kernel)];exact ⟨rfl,rfl⟩))
  (fun os started H enc _=>ratchetUnpacks_lifted os started H enc)
#print axioms ratchetUnpacks_holds
end Go.Proofs.YtpkllkbmoodniaaGreat
