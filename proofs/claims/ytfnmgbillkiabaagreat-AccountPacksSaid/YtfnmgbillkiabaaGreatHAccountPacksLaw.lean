/- AccountPacks: an account's packing is its reference's packing, and is read back. -/
import Derived.Test.YtfnmgbillkiabaaGreatHwAc8ToAc8
import Derived.Test.YtfnmgbillkiabaaGreatRows
import Derived.Test.YtfnmgbillkiabaaGreatHx8
import Derived.ProofKit
set_option linter.unusedSimpArgs false
set_option linter.unusedVariables false
namespace Go.Proofs.YtfnmgbillkiabaaGreat
open Go Go.Sx Go.ChangeShapes Go.WideShapes Go.ChangeAt Go.RowKit
theorem accountPacks_own:ownKnob Tryz.prog.godebug = none:=by kernel_rfl
theorem accountPacks_laidOut:laidOutB Tryz.prog = true:=by kernel_rfl
theorem accountPacks_takes:TakesL Tryz.prog [70] [isOfStruct (catF [cArr8 32,cArr8 32,catF [cU16,cArr8 32],cSl 33 [(1,.u16 0),(32,.a8 (List.replicate 32 0))] (catF [cU16,cArr8 32]),cU16])]:=
 ⟨takes_st [(0,33),(32,33),(64,67),(97,68),(98,34)] (by kernel_rfl) (by kernel_rfl) ⟨takesC_arr8 (e:=5) (by kernel_rfl) (by kernel_rfl) (by kernel_rfl) (by kernel_rfl),takesC_arr8 (e:=5) (by kernel_rfl) (by kernel_rfl) (by kernel_rfl) (by kernel_rfl),takesC_st [(0,34),(1,33)] (by kernel_rfl) (by kernel_rfl) ⟨takesC_u16 (by kernel_rfl),takesC_arr8 (e:=5) (by kernel_rfl) (by kernel_rfl) (by kernel_rfl) (by kernel_rfl),trivial⟩,takesC_sl (e:=67) (es:=33) (by kernel_rfl) (by kernel_rfl) (by decide) (takesC_st [(0,34),(1,33)] (by kernel_rfl) (by kernel_rfl) ⟨takesC_u16 (by kernel_rfl),takesC_arr8 (e:=5) (by kernel_rfl) (by kernel_rfl) (by kernel_rfl) (by kernel_rfl),trivial⟩),takesC_u16 (by kernel_rfl),trivial⟩,trivial⟩
set_option maxRecDepth 100000 in
theorem accountPacks_lifted (os:Os) (started:os.Started) (H:Type) (enc:TypeId × Value->H) :
  ReturnsInHanded {} Tryz.checked os 5 .any (Rows.accountPacksSpec.pre6 enc Tryz.prog Tryz.f5 Rows.accountPacksRow.domain false) (Rows.accountPacksSpec.post enc Tryz.prog Tryz.f5 false true false false):=by
 refine returnsInHanded_of_change (C:=Tryz.checked) accountPacks_own started (by kernel_rfl) Tryz.func5
  (ChangeSpec.witness6 (enc:=enc) (C:=Tryz.checked) false ⟨#[],#[.agg #[.int .u8 0,.int .u8 0,.int .u8 0,.int .u8 0,.int .u8 0,.int .u8 0,.int .u8 0,.int .u8 0,.int .u8 0,.int .u8 0,.int .u8 0,.int .u8 0,.int .u8 0,.int .u8 0,.int .u8 0,.int .u8 0,.int .u8 0,.int .u8 0,.int .u8 0,.int .u8 0,.int .u8 0,.int .u8 0,.int .u8 0,.int .u8 0,.int .u8 0,.int .u8 0,.int .u8 0,.int .u8 0,.int .u8 0,.int .u8 0,.int .u8 0,.int .u8 0,.int .u8 0,.int .u8 0,.int .u8 0,.int .u8 0,.int .u8 0,.int .u8 0,.int .u8 0,.int .u8 0,.int .u8 0,.int .u8 0,.int .u8 0,.int .u8 0,.int .u8 0,.int .u8 0,.int .u8 0,.int .u8 0,.int .u8 0,.int .u8 0,.int .u8 0,.int .u8 0,.int .u8 0,.int .u8 0,.int .u8 0,.int .u8 0,.int .u8 0,.int .u8 0,.int .u8 0,.int .u8 0,.int .u8 0,.int .u8 0,.int .u8 0,.int .u8 0,.int .u16 0,.int .u8 0,.int .u8 0,.int .u8 0,.int .u8 0,.int .u8 0,.int .u8 0,.int .u8 0,.int .u8 0,.int .u8 0,.int .u8 0,.int .u8 0,.int .u8 0,.int .u8 0,.int .u8 0,.int .u8 0,.int .u8 0,.int .u8 0,.int .u8 0,.int .u8 0,.int .u8 0,.int .u8 0,.int .u8 0,.int .u8 0,.int .u8 0,.int .u8 0,.int .u8 0,.int .u8 0,.int .u8 0,.int .u8 0,.int .u8 0,.int .u8 0,.int .u8 0,.slice none 0 0,.int .u16 0]],[]⟩ 8 (by kernel_rfl) (by kernel_rfl) (by kernel_rfl) (by kernel_rfl)) ?_
 intro W base args ds gs before hval hW hcnd _
 exact law_row (C:=Tryz.checked) (ts:=[70]) accountPacks_laidOut (by kernel_rfl) (by kernel_rfl) rfl accountPacks_takes
  (fun ds hd=>by match ds,hd with | [_],_=>rfl) (tb:=4) (by kernel_rfl) (by kernel_rfl) accountPacks_runs hval hW
theorem accountPacks_holds:Rows.AccountPacksSaid:=
 OpenClaim.holds_of_wide 5 Tryz.f5 rfl rfl rfl rfl rfl rfl rfl ⟨rfl,rfl,rfl,rfl,rfl⟩ rfl rfl rfl rfl rfl (by kernel_rfl) Tryz.func5 (by kernel_rfl)
  (of_decide_eq_true (by kernel_rfl)) (by unfold Func.isWrapper;first | (rw [if_pos (by decide +kernel)];kernel_rfl) | (rw [if_neg (by decide +kernel)];exact ⟨rfl,rfl⟩))
  (fun os started H enc _=>accountPacks_lifted os started H enc)
#print axioms accountPacks_holds
end Go.Proofs.YtfnmgbillkiabaaGreat
