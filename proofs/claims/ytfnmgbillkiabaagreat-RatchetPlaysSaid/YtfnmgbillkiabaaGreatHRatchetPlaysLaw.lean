/- Whatever two sessions, letters and turns are played, law18.RatchetPlays is true: what is sealed, opened and refused is the document's. -/
import Derived.Test.YtfnmgbillkiabaaGreatHwZd6ToZd6
import Derived.Test.YtfnmgbillkiabaaGreatRows
import Derived.Test.YtfnmgbillkiabaaGreatHx7
import Derived.ProofKit
set_option linter.unusedSimpArgs false
set_option linter.unusedVariables false
namespace Go.Proofs.YtfnmgbillkiabaaGreat
open Go Go.Sx Go.ChangeShapes Go.WideShapes Go.ChangeAt Go.RowKit
theorem ratchetPlays_own:ownKnob Tryz.prog.godebug = none:=by kernel_rfl
theorem ratchetPlays_laidOut:laidOutB Tryz.prog = true:=by kernel_rfl
theorem ratchetPlays_takes:TakesL Tryz.prog [22] [isOfSl 6 [(1,.u8 0),(1,.bool (false = true)),(1,.i .i64 0),(1,.isl 0 0 1 [(0 * 1,.a8 [])]),(1,.i .i64 0),(1,.u8 0)] (catF [cU8,cBool,cInt .i64,cSl8 1,cInt .i64,cU8])]:=
 ⟨takes_ofSl (e:=48) (es:=6) (by kernel_rfl) (by kernel_rfl) (by decide) (takesC_st [(0,5),(1,4),(2,3),(3,46),(4,3),(5,5)] (by kernel_rfl) (by kernel_rfl) ⟨takesC_u8 (by kernel_rfl),takesC_bool (by kernel_rfl),takesC_int (by kernel_rfl),takesC_slU8 (e:=5) (by kernel_rfl) (by kernel_rfl) (by kernel_rfl),takesC_int (by kernel_rfl),takesC_u8 (by kernel_rfl),trivial⟩),trivial⟩
set_option maxRecDepth 100000 in
theorem ratchetPlays_lifted (os:Os) (started:os.Started) (H:Type) (enc:TypeId × Value->H) :
  ReturnsInHanded {} Tryz.checked os 3 .any (Rows.ratchetPlaysSpec.pre6 enc Tryz.prog Tryz.f3 Rows.ratchetPlaysRow.domain false) (Rows.ratchetPlaysSpec.post enc Tryz.prog Tryz.f3 false true false false):=by
 refine returnsInHanded_of_change (C:=Tryz.checked) ratchetPlays_own started (by kernel_rfl) Tryz.func3
  (ChangeSpec.witness6 (enc:=enc) (C:=Tryz.checked) false ⟨#[],#[.slice none 0 0],[]⟩ 8 (by kernel_rfl) (by kernel_rfl) (by kernel_rfl) (by kernel_rfl)) ?_
 intro W base args ds gs before hval hW hcnd _
 exact law_row (C:=Tryz.checked) (ts:=[22]) ratchetPlays_laidOut (by kernel_rfl) (by kernel_rfl) rfl ratchetPlays_takes
  (fun ds hd=>by match ds,hd with | [_],_=>rfl) (tb:=4) (by kernel_rfl) (by kernel_rfl) ratchetPlays_runs hval hW
theorem ratchetPlays_holds:Rows.RatchetPlaysSaid:=
 OpenClaim.holds_of_wide 3 Tryz.f3 rfl rfl rfl rfl rfl rfl rfl ⟨rfl,rfl,rfl,rfl,rfl⟩ rfl rfl rfl rfl rfl (by kernel_rfl) Tryz.func3 (by kernel_rfl)
  (of_decide_eq_true (by kernel_rfl)) (by unfold Func.isWrapper;first | (rw [if_pos (by decide +kernel)];kernel_rfl) | (rw [if_neg (by decide +kernel)];exact ⟨rfl,rfl⟩))
  (fun os started H enc _=>ratchetPlays_lifted os started H enc)
#print axioms ratchetPlays_holds
end Go.Proofs.YtfnmgbillkiabaaGreat
