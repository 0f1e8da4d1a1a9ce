/-
  No cell of these rows narrows 'for every input' (looked for: loops, veiled, ifaces, maps, wideKeys, modest, calm, conditions, laid).
  DERIVED. THE GIVEN ROWS OF THIS SEAT. 4 by the template 'for every input the law returns true; each argument reads behind the call as it read before'; 0 by the template 'total and deterministic' (their statements: YtgfbclahkjdjeaaTotals.lean).
  GIVEN WITH THE SEED: the statements are not yours to turn. If you find one false, say at which input.
  Laid BY PROGRAM, IN A SANDBOX (cutbox-rows.mjs): the forced cells as the released guide's own fill.sh prints them over the translation 82cbea7c4b953ab8… (all of the seat's roots in one cut). By AI agents, Wed Nov 11 2026. No macro, syntax, notation, axiom, sorry.
-/
import Derived.Test.YtgfbclahkjdjeaaChecked
import GoSem.Claim
import GoSem.ClaimJoined
import GoSem.ClaimMapViews
import Derived.JoinedTies
import Derived.KernelRfl
namespace Go.Proofs.Ytgfbclahkjdjeaa
/- THE CELL 'sum', in the pinned program and in every row, IS THE sha256 OF THE DUMP (.gsa) THAT YtgfbclahkjdjeaaProg.lean LOADS. Nothing in Lean hashes anything: it is a label: what it is worth is what the hold of that sum in a sandbox is worth. -/
noncomputable def Try.pinned : Pinned := { name := "ytgfbclahkjdjeaa", sum := "82cbea7c4b953ab8abedff765514bf2bce2a9e99fa7ae794f49b1a7b6d4cc993", checked := Try.checked }
namespace Rows
def none {H : Type} : Left H := { results := [], args := [] }

/-- 'missivelaw08.ScalarReduces': WHATEVER THE INPUT: true; the input reads as it did. -/
def scalarReducesSpec : ChangeSpec := { name := "scalarReduces", fn := fun _ => fun
  | [d] => { results := [.lit (.bool true)], args := [d] }
  | _ => none }
def scalarReducesRow : OpenClaim := { program := "ytgfbclahkjdjeaa", sum := "82cbea7c4b953ab8abedff765514bf2bce2a9e99fa7ae794f49b1a7b6d4cc993", func := "missive/missivelaw08.ScalarReduces", spec := "scalarReduces", inPlace := ["math/bits.Sub64", "math/bits.Add64"], unfollowed := true, recurses := true, apart := false }
def ScalarReducesSaid : Prop := scalarReducesRow.holds Try.pinned (OpenSpec.ofChange scalarReducesSpec)

/-- ITS FALSE NEIGHBOUR: 'it returns false'. Refute it at one input. -/
def scalarReducesWrong : ChangeSpec := { name := "scalarReduces", fn := fun _ => fun
  | [d] => { results := [.lit (.bool false)], args := [d] }
  | _ => none }
def ScalarReducesWrongFalsely : Prop := scalarReducesRow.holds Try.pinned (OpenSpec.ofChange scalarReducesWrong)

/-- 'missivelaw08.ScalarMulAdds': WHATEVER THE INPUT: true; the input reads as it did. -/
def scalarMulAddsSpec : ChangeSpec := { name := "scalarMulAdds", fn := fun _ => fun
  | [d1, d2, d3] => { results := [.lit (.bool true)], args := [d1, d2, d3] }
  | _ => none }
def scalarMulAddsRow : OpenClaim := { program := "ytgfbclahkjdjeaa", sum := "82cbea7c4b953ab8abedff765514bf2bce2a9e99fa7ae794f49b1a7b6d4cc993", func := "missive/missivelaw08.ScalarMulAdds", spec := "scalarMulAdds", inPlace := ["math/bits.Sub64", "math/bits.Add64"], unfollowed := true, recurses := true, apart := false }
def ScalarMulAddsSaid : Prop := scalarMulAddsRow.holds Try.pinned (OpenSpec.ofChange scalarMulAddsSpec)

/-- ITS FALSE NEIGHBOUR: 'it returns false'. Refute it at one input. -/
def scalarMulAddsWrong : ChangeSpec := { name := "scalarMulAdds", fn := fun _ => fun
  | [d1, d2, d3] => { results := [.lit (.bool false)], args := [d1, d2, d3] }
  | _ => none }
def ScalarMulAddsWrongFalsely : Prop := scalarMulAddsRow.holds Try.pinned (OpenSpec.ofChange scalarMulAddsWrong)

/-- 'missivelaw08.ScalarRight': WHATEVER THE INPUT: true; the input reads as it did. -/
def scalarRightSpec : ChangeSpec := { name := "scalarRight", fn := fun _ => fun
  | [d] => { results := [.lit (.bool true)], args := [d] }
  | _ => none }
def scalarRightRow : OpenClaim := { program := "ytgfbclahkjdjeaa", sum := "82cbea7c4b953ab8abedff765514bf2bce2a9e99fa7ae794f49b1a7b6d4cc993", func := "missive/missivelaw08.ScalarRight", spec := "scalarRight", inPlace := ["math/bits.Sub64", "math/bits.Add64"], unfollowed := true, recurses := true, apart := false }
def ScalarRightSaid : Prop := scalarRightRow.holds Try.pinned (OpenSpec.ofChange scalarRightSpec)

/-- ITS FALSE NEIGHBOUR: 'it returns false'. Refute it at one input. -/
def scalarRightWrong : ChangeSpec := { name := "scalarRight", fn := fun _ => fun
  | [d] => { results := [.lit (.bool false)], args := [d] }
  | _ => none }
def ScalarRightWrongFalsely : Prop := scalarRightRow.holds Try.pinned (OpenSpec.ofChange scalarRightWrong)

/-- 'missivelaw08.ScalarRing': WHATEVER THE INPUT: true; the input reads as it did. -/
def scalarRingSpec : ChangeSpec := { name := "scalarRing", fn := fun _ => fun
  | [d1, d2, d3] => { results := [.lit (.bool true)], args := [d1, d2, d3] }
  | _ => none }
def scalarRingRow : OpenClaim := { program := "ytgfbclahkjdjeaa", sum := "82cbea7c4b953ab8abedff765514bf2bce2a9e99fa7ae794f49b1a7b6d4cc993", func := "missive/missivelaw08.ScalarRing", spec := "scalarRing", inPlace := ["math/bits.Sub64", "math/bits.Add64"], unfollowed := true, recurses := true, apart := false }
def ScalarRingSaid : Prop := scalarRingRow.holds Try.pinned (OpenSpec.ofChange scalarRingSpec)

/-- ITS FALSE NEIGHBOUR: 'it returns false'. Refute it at one input. -/
def scalarRingWrong : ChangeSpec := { name := "scalarRing", fn := fun _ => fun
  | [d1, d2, d3] => { results := [.lit (.bool false)], args := [d1, d2, d3] }
  | _ => none }
def ScalarRingWrongFalsely : Prop := scalarRingRow.holds Try.pinned (OpenSpec.ofChange scalarRingWrong)

/- THE SECOND FORM. 'bulk': how many values and letters a reading holds, each counted each time it is reached (what is shared counts as often as it is met; a slice's spare places count too). A statement '..UptoSaid' is the law's where the arguments, and the package variables that the reading takes, are together of bulk at most 1048576: NARROWER than '..Said'. Prove '..Said' where nothing that the law and all that it calls make is longer than what came in: it says more and counts as full. Else prove '..UptoSaid'. A law counts once. -/
mutual
def uptoBulk {H : Type} : DataW H → Nat
  | .lit (.string bytes) => bytes.length + 1
  | .lit _ => 1
  | .nil => 1
  | .ptr d => uptoBulk d + 1
  | .slice elems spare => uptoBulkAll elems + uptoBulkAll spare + 1
  | .agg parts => uptoBulkAll parts + 1
  | .iface _ d => uptoBulk d + 1
  | .map entries => uptoBulkEntries entries + 1
  | .held _ => 1
def uptoBulkAll {H : Type} : List (DataW H) → Nat
  | [] => 0
  | d :: r => uptoBulk d + uptoBulkAll r
def uptoBulkEntries {H : Type} : List (Lit × DataW H) → Nat
  | [] => 0
  | x :: r => uptoBulkEntry x + uptoBulkEntries r
def uptoBulkEntry {H : Type} : Lit × DataW H → Nat
  | (.string bytes, d) => bytes.length + uptoBulk d + 1
  | (_, d) => uptoBulk d + 1
 end
def uptoSmall : (H : Type) → List (DataW H) → Bool := fun _ ds => decide (uptoBulkAll ds ≤ 1048576)
def OpenSpec.upto (s : _root_.Go.ChangeSpec) : _root_.Go.OpenSpec := { _root_.Go.OpenSpec.ofChange s with cond := some uptoSmall }

/-- 'missivelaw08.ScalarReduces', WHERE WHAT IT READS IS OF BULK AT MOST 1048576: true; the input reads as it did. -/
def scalarReducesUptoRow : OpenClaim := { program := "ytgfbclahkjdjeaa", sum := "82cbea7c4b953ab8abedff765514bf2bce2a9e99fa7ae794f49b1a7b6d4cc993", func := "missive/missivelaw08.ScalarReduces", spec := "scalarReduces", inPlace := ["math/bits.Sub64", "math/bits.Add64"], unfollowed := true, recurses := true, apart := false, narrowed := true }
def ScalarReducesUptoSaid : Prop := scalarReducesUptoRow.holds Try.pinned (OpenSpec.upto scalarReducesSpec)

/-- 'missivelaw08.ScalarMulAdds', WHERE WHAT IT READS IS OF BULK AT MOST 1048576: true; the input reads as it did. -/
def scalarMulAddsUptoRow : OpenClaim := { program := "ytgfbclahkjdjeaa", sum := "82cbea7c4b953ab8abedff765514bf2bce2a9e99fa7ae794f49b1a7b6d4cc993", func := "missive/missivelaw08.ScalarMulAdds", spec := "scalarMulAdds", inPlace := ["math/bits.Sub64", "math/bits.Add64"], unfollowed := true, recurses := true, apart := false, narrowed := true }
def ScalarMulAddsUptoSaid : Prop := scalarMulAddsUptoRow.holds Try.pinned (OpenSpec.upto scalarMulAddsSpec)

/-- 'missivelaw08.ScalarRight', WHERE WHAT IT READS IS OF BULK AT MOST 1048576: true; the input reads as it did. -/
def scalarRightUptoRow : OpenClaim := { program := "ytgfbclahkjdjeaa", sum := "82cbea7c4b953ab8abedff765514bf2bce2a9e99fa7ae794f49b1a7b6d4cc993", func := "missive/missivelaw08.ScalarRight", spec := "scalarRight", inPlace := ["math/bits.Sub64", "math/bits.Add64"], unfollowed := true, recurses := true, apart := false, narrowed := true }
def ScalarRightUptoSaid : Prop := scalarRightUptoRow.holds Try.pinned (OpenSpec.upto scalarRightSpec)

/-- 'missivelaw08.ScalarRing', WHERE WHAT IT READS IS OF BULK AT MOST 1048576: true; the input reads as it did. -/
def scalarRingUptoRow : OpenClaim := { program := "ytgfbclahkjdjeaa", sum := "82cbea7c4b953ab8abedff765514bf2bce2a9e99fa7ae794f49b1a7b6d4cc993", func := "missive/missivelaw08.ScalarRing", spec := "scalarRing", inPlace := ["math/bits.Sub64", "math/bits.Add64"], unfollowed := true, recurses := true, apart := false, narrowed := true }
def ScalarRingUptoSaid : Prop := scalarRingUptoRow.holds Try.pinned (OpenSpec.upto scalarRingSpec)

end Rows
end Go.Proofs.Ytgfbclahkjdjeaa
