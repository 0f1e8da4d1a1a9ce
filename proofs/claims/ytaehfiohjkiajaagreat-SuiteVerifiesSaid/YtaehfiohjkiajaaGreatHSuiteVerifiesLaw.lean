/- Whether anything is a signature is the document's, in both suites -/
import Derived.Test.YtaehfiohjkiajaaGreatHwFr1ToSk9
import Derived.Test.YtaehfiohjkiajaaGreatRows
import Derived.Test.YtaehfiohjkiajaaGreatHx7
import Derived.ProofKit
set_option linter.unusedSimpArgs false
set_option linter.unusedVariables false
open Array (replicate)
namespace Go.Proofs.YtaehfiohjkiajaaGreat
open Go Go.Sx Go.ChangeShapes Go.WideShapes Go.ChangeAt Go.RowKit
theorem qo:ownKnob Tryz.prog.godebug=none:=by kernel_rfl
theorem kd:laidOutB Tryz.prog=true:=by kernel_rfl
theorem nq:aAW Tryz.prog [4,22,23,22,24,5] [aG1,aG2 32,aG0 1,aG2 32,aG2 64,ab2]:=
 ⟨aA8 (by kernel_rfl),aA9 (e:=5) (by kernel_rfl) (by kernel_rfl) (by kernel_rfl) (by kernel_rfl),aEE (e:=5) (by kernel_rfl) (by kernel_rfl) (by kernel_rfl),aA9 (e:=5) (by kernel_rfl) (by kernel_rfl) (by kernel_rfl) (by kernel_rfl),aA9 (e:=5) (by kernel_rfl) (by kernel_rfl) (by kernel_rfl) (by kernel_rfl),aT6 (by kernel_rfl),trivial⟩
set_option maxRecDepth 100000 in
theorem mL (os:Os) (started:os.Started) (H:Type) (enc:TypeId×Value->H):
  ReturnsInHanded {} Tryz.checked os 3 .any (Rows.suiteVerifiesSpec.pre6 enc Tryz.prog Tryz.f3 Rows.suiteVerifiesRow.domain false) (Rows.suiteVerifiesSpec.post enc Tryz.prog Tryz.f3 false true false false):=by
 refine returnsInHanded_of_change (C:=Tryz.checked) qo started (by kernel_rfl) Tryz.func3
  (ChangeSpec.witness6 (enc:=enc) (C:=Tryz.checked) false ⟨#[],#[.bool false,.agg (replicate 32 (.int .u8 0)),.slice none 0 0,.agg (replicate 32 (.int .u8 0)),.agg (replicate 64 (.int .u8 0)),.int .u8 0],[]⟩ 8 (by kernel_rfl) (by kernel_rfl) (by kernel_rfl) (by kernel_rfl)) ?_
 intro W base args ds gs before hval hW hcnd _
 exact aQY (C:=Tryz.checked) (ts:=[4,22,23,22,24,5]) kd (by kernel_rfl) (by kernel_rfl) rfl nq
  (λds hd=>by match ds,hd with|[_,_,_,_,_,_],_=>rfl) (tb:=4) (by kernel_rfl) (by kernel_rfl) suiteVerifies_runs hval hW
theorem suiteVerifies_holds:Rows.SuiteVerifiesSaid:=
 OpenClaim.holds_of_wide 3 Tryz.f3 rfl rfl rfl rfl rfl rfl rfl ⟨rfl,rfl,rfl,rfl,rfl⟩ rfl rfl rfl rfl rfl (by kernel_rfl) Tryz.func3 (by kernel_rfl)
  (of_decide_eq_true (by kernel_rfl)) (by unfold Func.isWrapper;first | (rw [if_pos (by decide +kernel)];kernel_rfl) | (rw [if_neg (by decide +kernel)];exact ⟨rfl,rfl⟩))
  (λos started H enc _=>mL os started H enc)
#print axioms suiteVerifies_holds
end Go.Proofs.YtaehfiohjkiajaaGreat
