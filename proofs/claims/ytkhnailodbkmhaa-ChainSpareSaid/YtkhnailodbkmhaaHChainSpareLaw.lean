/- Two keys that are kept behind one list do not write over one another, nor over the list's spare room. -/
import Derived.Test.YtkhnailodbkmhaaHwCh22ToCh22
import Derived.Test.YtkhnailodbkmhaaRows
import Derived.Test.YtkhnailodbkmhaaHx7
import Derived.ProofKit
set_option linter.unusedSimpArgs false
set_option linter.unusedVariables false
namespace Go.Proofs.Ytkhnailodbkmhaa
open Go Go.Sx Go.ChangeShapes Go.WideShapes Go.ChangeAt Go.RowKit
theorem chainSpare_own : ownKnob Try.prog.godebug = none := by kernel_rfl
theorem chainSpare_laidOut : laidOutB Try.prog = true := by kernel_rfl
theorem chainSpare_takes : TakesL Try.prog [42, 22, 22] [isOfSl 65 [(32, .a8 (List.replicate 32 0)), (1, .u16 0), (32, .a8 (List.replicate 32 0))] (catF [cArr8 32, cU16, cArr8 32]), isArr8 32, isArr8 32] :=
  ⟨takes_ofSl (e := 51) (es := 65) (by kernel_rfl) (by kernel_rfl) (by decide) (takesC_st [(0, 23), (32, 24), (33, 23)] (by kernel_rfl) (by kernel_rfl) ⟨takesC_arr8 (e := 5) (by kernel_rfl) (by kernel_rfl) (by kernel_rfl) (by kernel_rfl), takesC_u16 (by kernel_rfl), takesC_arr8 (e := 5) (by kernel_rfl) (by kernel_rfl) (by kernel_rfl) (by kernel_rfl), trivial⟩), takes_arr8 (e := 5) (by kernel_rfl) (by kernel_rfl) (by kernel_rfl) (by kernel_rfl), takes_arr8 (e := 5) (by kernel_rfl) (by kernel_rfl) (by kernel_rfl) (by kernel_rfl), trivial⟩
set_option maxRecDepth 100000 in
theorem chainSpare_lifted (os : Os) (started : os.Started) (H : Type) (enc : TypeId × Value → H) :
    ReturnsInHanded {} Try.checked os 6 .any (Rows.chainSpareSpec.pre6 enc Try.prog Try.f6 Rows.chainSpareRow.domain false) (Rows.chainSpareSpec.post enc Try.prog Try.f6 false true false false) := by
  refine returnsInHanded_of_change (C := Try.checked) chainSpare_own started (by kernel_rfl) Try.func6
    (ChangeSpec.witness6 (enc := enc) (C := Try.checked) false ⟨#[], #[.slice none 0 0, .agg (Array.replicate 32 (.int .u8 0)), .agg (Array.replicate 32 (.int .u8 0))], []⟩ 8 (by kernel_rfl) (by kernel_rfl) (by kernel_rfl) (by kernel_rfl)) ?_
  intro W base args ds gs before hval hW hcnd _
  exact law_row (C := Try.checked) (ts := [42, 22, 22]) chainSpare_laidOut (by kernel_rfl) (by kernel_rfl) rfl chainSpare_takes
    (fun ds hd => by match ds, hd with | [_, _, _], _ => rfl) (tb := 4) (by kernel_rfl) (by kernel_rfl) chainSpare_runs hval hW
theorem chainSpare_holds : Rows.ChainSpareSaid :=
  OpenClaim.holds_of_wide 6 Try.f6 rfl rfl rfl rfl rfl rfl rfl ⟨rfl, rfl, rfl, rfl, rfl⟩ rfl rfl rfl rfl rfl (by kernel_rfl) Try.func6 (by kernel_rfl)
    (of_decide_eq_true (by kernel_rfl)) (by unfold Func.isWrapper; first | (rw [if_pos (by decide +kernel)]; kernel_rfl) | (rw [if_neg (by decide +kernel)]; exact ⟨rfl, rfl⟩))
    (fun os started H enc _ => chainSpare_lifted os started H enc)
#print axioms chainSpare_holds
end Go.Proofs.Ytkhnailodbkmhaa
