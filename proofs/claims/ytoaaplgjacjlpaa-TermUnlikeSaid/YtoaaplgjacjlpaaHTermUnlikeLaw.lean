/- Two terms have one name just if their kinds and all their parts are the same: for every argument, with no condition. -/
import Derived.Test.YtoaaplgjacjlpaaHwTm20ToTm20
import Derived.Test.YtoaaplgjacjlpaaRows
import Derived.Test.YtoaaplgjacjlpaaHx7
import Derived.ProofKit
set_option linter.unusedSimpArgs false
set_option linter.unusedVariables false
namespace Go.Proofs.Ytoaaplgjacjlpaa
open Go Go.Sx Go.ChangeShapes Go.WideShapes Go.ChangeAt Go.RowKit

theorem termUnlike_own : ownKnob Try.prog.godebug = none := by kernel_rfl
theorem termUnlike_laidOut : laidOutB Try.prog = true := by kernel_rfl

theorem termUnlike_takes : TakesL Try.prog [22, 48, 48] [isOfSl 2 [(1, .i .i64 0), (1, .isl 0 0 2 [(0 * 2, .arr 0 2 fun _ => [(1, .isl 0 0 1 [(0 * 1, .ai [])]), (1, .isl 0 0 1 [(0 * 1, .a8 [])])])])] (catF [cInt .i64, cSl 2 [(1, .isl 0 0 1 [(0 * 1, .ai [])]), (1, .isl 0 0 1 [(0 * 1, .a8 [])])] (catF [cSlI, cSl8 1])]), isOfStruct (catF [cInt .i64, cSl 2 [(1, .isl 0 0 1 [(0 * 1, .ai [])]), (1, .isl 0 0 1 [(0 * 1, .a8 [])])] (catF [cSlI, cSl8 1])]), isOfStruct (catF [cInt .i64, cSl 2 [(1, .isl 0 0 1 [(0 * 1, .ai [])]), (1, .isl 0 0 1 [(0 * 1, .a8 [])])] (catF [cSlI, cSl8 1])])] :=
  ⟨takes_ofSl (e := 48) (es := 2) (by kernel_rfl) (by kernel_rfl) (by decide) (takesC_st [(0, 3), (1, 23)] (by kernel_rfl) (by kernel_rfl) ⟨takesC_int (by kernel_rfl), takesC_sl (e := 36) (es := 2) (by kernel_rfl) (by kernel_rfl) (by decide) (takesC_st [(0, 34), (1, 33)] (by kernel_rfl) (by kernel_rfl) ⟨takesC_slI (e := 3) (by kernel_rfl) (by kernel_rfl) (by kernel_rfl), takesC_slU8 (e := 5) (by kernel_rfl) (by kernel_rfl) (by kernel_rfl), trivial⟩), trivial⟩), takes_st [(0, 3), (1, 23)] (by kernel_rfl) (by kernel_rfl) ⟨takesC_int (by kernel_rfl), takesC_sl (e := 36) (es := 2) (by kernel_rfl) (by kernel_rfl) (by decide) (takesC_st [(0, 34), (1, 33)] (by kernel_rfl) (by kernel_rfl) ⟨takesC_slI (e := 3) (by kernel_rfl) (by kernel_rfl) (by kernel_rfl), takesC_slU8 (e := 5) (by kernel_rfl) (by kernel_rfl) (by kernel_rfl), trivial⟩), trivial⟩, takes_st [(0, 3), (1, 23)] (by kernel_rfl) (by kernel_rfl) ⟨takesC_int (by kernel_rfl), takesC_sl (e := 36) (es := 2) (by kernel_rfl) (by kernel_rfl) (by decide) (takesC_st [(0, 34), (1, 33)] (by kernel_rfl) (by kernel_rfl) ⟨takesC_slI (e := 3) (by kernel_rfl) (by kernel_rfl) (by kernel_rfl), takesC_slU8 (e := 5) (by kernel_rfl) (by kernel_rfl) (by kernel_rfl), trivial⟩), trivial⟩, trivial⟩

theorem termUnlike_lifted (os : Os) (started : os.Started) (H : Type) (enc : TypeId × Value → H) :
    ReturnsInHanded {} Try.checked os 5 .any (Rows.termUnlikeSpec.pre6 enc Try.prog Try.f5 Rows.termUnlikeRow.domain false) (Rows.termUnlikeSpec.post enc Try.prog Try.f5 false true false false) := by
  refine returnsInHanded_of_change (C := Try.checked) termUnlike_own started (by kernel_rfl) Try.func5
    (ChangeSpec.witness6 (enc := enc) (C := Try.checked) false ⟨#[], #[.slice none 0 0, .agg #[.int .i64 0, .slice none 0 0], .agg #[.int .i64 0, .slice none 0 0]], []⟩ 8 (by kernel_rfl) (by kernel_rfl) (by kernel_rfl) (by kernel_rfl)) ?_
  intro W base args ds gs before hval hW hcnd _
  exact law_row (C := Try.checked) (ts := [22, 48, 48]) termUnlike_laidOut (by kernel_rfl) (by kernel_rfl) rfl termUnlike_takes
    (fun ds hd => by match ds, hd with | [_, _, _], _ => rfl) (tb := 4) (by kernel_rfl) (by kernel_rfl) termUnlike_runs hval hW

theorem termUnlike_holds : Rows.TermUnlikeSaid :=
  OpenClaim.holds_of_wide 5 Try.f5 rfl rfl rfl rfl rfl rfl rfl ⟨rfl, rfl, rfl, rfl, rfl⟩ rfl rfl rfl rfl rfl (by kernel_rfl) Try.func5 (by kernel_rfl)
    (of_decide_eq_true (by kernel_rfl)) (by unfold Func.isWrapper; first | (rw [if_pos (by decide +kernel)]; kernel_rfl) | (rw [if_neg (by decide +kernel)]; exact ⟨rfl, rfl⟩))
    (fun os started H enc _ => termUnlike_lifted os started H enc)

#print axioms termUnlike_holds
end Go.Proofs.Ytoaaplgjacjlpaa
