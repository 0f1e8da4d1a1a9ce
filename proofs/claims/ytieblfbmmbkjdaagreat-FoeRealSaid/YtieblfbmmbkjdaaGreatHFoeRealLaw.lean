/- In the real suite a foe can sign with what it holds, and seal and open with what it agrees on -/
import Derived.Test.YtieblfbmmbkjdaaGreatHwFobToFoa
import Derived.Test.YtieblfbmmbkjdaaGreatRows
import Derived.Test.YtieblfbmmbkjdaaGreatHx8
import Derived.ProofKit
import Derived.HandedShaped
set_option linter.unusedSimpArgs false
set_option linter.unusedVariables false
namespace Go.Proofs.YtieblfbmmbkjdaaGreat
open Go Go.Sx Go.ChangeShapes Go.WideShapes Go.ChangeAt Go.RowKit
theorem nH:ownKnob Tryz.prog.godebug=none:=by kernel_rfl
theorem iG:laidOutB Tryz.prog=true:=by kernel_rfl
theorem j6:aAW Tryz.prog [22,23,24] [aG2 32,aG0 1,xI]:=
 ⟨aA9 (e:=5) (by kernel_rfl) (by kernel_rfl) (by kernel_rfl) (by kernel_rfl),aEE (e:=5) (by kernel_rfl) (by kernel_rfl) (by kernel_rfl),sP (by kernel_rfl),trivial⟩
set_option maxRecDepth 100000 in
theorem ik (os:Os) (started:os.Started) (H:Type) (enc:TypeId×Value->H):
  ReturnsInHanded {} Tryz.checked os 3 .any (Rows.foeRealSpec.pre6 enc Tryz.prog Tryz.f3 Rows.foeRealRow.domain false) (Rows.foeRealSpec.post enc Tryz.prog Tryz.f3 false true false false):=by
 refine returnsInHanded_of_change_shaped (C:=Tryz.checked) nH started (by kernel_rfl) Tryz.func3
  (ChangeSpec.witness6 (enc:=enc) (C:=Tryz.checked) false ⟨#[],#[.agg (Array.replicate 32 (.int .u8 0)),.slice none 0 0,.int .u16 0],[]⟩ 8 (by kernel_rfl) (by kernel_rfl) (by kernel_rfl) (by kernel_rfl)) ?_
 intro W base args ds gs before hval hW hcnd _ hsh _
 exact aQY (C:=Tryz.checked) (ts:=[22,23,24]) iG (by kernel_rfl) (by kernel_rfl) rfl j6
  (λds hd=>by match ds,hd with|[_,_,_],_=>rfl) (tb:=4) (by kernel_rfl) (by kernel_rfl) (Tryz.laysM144.s1_3 W hsh) foeReal_runs hval hW
theorem foeReal_holds:Rows.FoeRealSaid:=
 OpenClaim.holds_of_wide 3 Tryz.f3 rfl rfl rfl rfl rfl rfl rfl ⟨rfl,rfl,rfl,rfl,rfl⟩ rfl rfl rfl rfl rfl (by kernel_rfl) Tryz.func3 (by kernel_rfl)
  (of_decide_eq_true (by kernel_rfl)) (by unfold Func.isWrapper;first | (rw [if_pos (by decide +kernel)];kernel_rfl) | (rw [if_neg (by decide +kernel)];exact ⟨rfl,rfl⟩))
  (λos started H enc _=>ik os started H enc)
#print axioms foeReal_holds
end Go.Proofs.YtieblfbmmbkjdaaGreat
