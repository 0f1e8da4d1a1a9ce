/-
  No cell of these rows narrows 'for every input' (looked for: loops, veiled, ifaces, maps, wideKeys, modest, calm, conditions, laid).
  DERIVED. THE GIVEN ROWS OF THIS SEAT. 5 by the template 'for every input the law returns true; each argument reads behind the call as it read before'; 0 by the template 'total and deterministic' (their statements: YtoaaplgjacjlpaaTotals.lean).
  GIVEN WITH THE SEED: the statements are not yours to turn. If you find one false, say at which input.
  Laid BY PROGRAM, IN A SANDBOX (cutbox-rows.mjs): the forced cells as the released guide's own fill.sh prints them over the translation 8ccdfc5697c87b77… (all of the seat's roots in one cut). By AI agents, Wed Nov 11 2026. No macro, syntax, notation, axiom, sorry.
-/
import Derived.Test.YtoaaplgjacjlpaaChecked
import GoSem.Claim
import GoSem.ClaimJoined
import GoSem.ClaimMapViews
import Derived.JoinedTies
import Derived.KernelRfl
namespace Go.Proofs.Ytoaaplgjacjlpaa
/- THE CELL 'sum', in the pinned program and in every row, IS THE sha256 OF THE DUMP (.gsa) THAT YtoaaplgjacjlpaaProg.lean LOADS. Nothing in Lean hashes anything: it is a label: what it is worth is what the hold of that sum in a sandbox is worth. -/
noncomputable def Try.pinned : Pinned := { name := "ytoaaplgjacjlpaa", sum := "8ccdfc5697c87b77ca9bb454aac7074059d36663aa94813fd15e347c0a0e1f34", checked := Try.checked }
namespace Rows
def none {H : Type} : Left H := { results := [], args := [] }

/-- 'missivelaw12.TermKnown': WHATEVER THE INPUT: true; the input reads as it did. -/
def termKnownSpec : ChangeSpec := { name := "termKnown", fn := fun _ => fun
  | [d1, d2] => { results := [.lit (.bool true)], args := [d1, d2] }
  | _ => none }
def termKnownRow : OpenClaim := { program := "ytoaaplgjacjlpaa", sum := "8ccdfc5697c87b77ca9bb454aac7074059d36663aa94813fd15e347c0a0e1f34", func := "missive/missivelaw12.TermKnown", spec := "termKnown", apart := false }
def TermKnownSaid : Prop := termKnownRow.holds Try.pinned (OpenSpec.ofChange termKnownSpec)

/-- ITS FALSE NEIGHBOUR: 'it returns false'. Refute it at one input. -/
def termKnownWrong : ChangeSpec := { name := "termKnown", fn := fun _ => fun
  | [d1, d2] => { results := [.lit (.bool false)], args := [d1, d2] }
  | _ => none }
def TermKnownWrongFalsely : Prop := termKnownRow.holds Try.pinned (OpenSpec.ofChange termKnownWrong)

/-- 'missivelaw12.TermMore': WHATEVER THE INPUT: true; the input reads as it did. -/
def termMoreSpec : ChangeSpec := { name := "termMore", fn := fun _ => fun
  | [d1, d2, d3] => { results := [.lit (.bool true)], args := [d1, d2, d3] }
  | _ => none }
def termMoreRow : OpenClaim := { program := "ytoaaplgjacjlpaa", sum := "8ccdfc5697c87b77ca9bb454aac7074059d36663aa94813fd15e347c0a0e1f34", func := "missive/missivelaw12.TermMore", spec := "termMore", apart := false }
def TermMoreSaid : Prop := termMoreRow.holds Try.pinned (OpenSpec.ofChange termMoreSpec)

/-- ITS FALSE NEIGHBOUR: 'it returns false'. Refute it at one input. -/
def termMoreWrong : ChangeSpec := { name := "termMore", fn := fun _ => fun
  | [d1, d2, d3] => { results := [.lit (.bool false)], args := [d1, d2, d3] }
  | _ => none }
def TermMoreWrongFalsely : Prop := termMoreRow.holds Try.pinned (OpenSpec.ofChange termMoreWrong)

/-- 'missivelaw12.TermUnlike': WHATEVER THE INPUT: true; the input reads as it did. -/
def termUnlikeSpec : ChangeSpec := { name := "termUnlike", fn := fun _ => fun
  | [d1, d2, d3] => { results := [.lit (.bool true)], args := [d1, d2, d3] }
  | _ => none }
def termUnlikeRow : OpenClaim := { program := "ytoaaplgjacjlpaa", sum := "8ccdfc5697c87b77ca9bb454aac7074059d36663aa94813fd15e347c0a0e1f34", func := "missive/missivelaw12.TermUnlike", spec := "termUnlike", apart := false }
def TermUnlikeSaid : Prop := termUnlikeRow.holds Try.pinned (OpenSpec.ofChange termUnlikeSpec)

/-- ITS FALSE NEIGHBOUR: 'it returns false'. Refute it at one input. -/
def termUnlikeWrong : ChangeSpec := { name := "termUnlike", fn := fun _ => fun
  | [d1, d2, d3] => { results := [.lit (.bool false)], args := [d1, d2, d3] }
  | _ => none }
def TermUnlikeWrongFalsely : Prop := termUnlikeRow.holds Try.pinned (OpenSpec.ofChange termUnlikeWrong)

/-- 'missivelaw12.TermMakes': WHATEVER THE INPUT: true; the input reads as it did. -/
def termMakesSpec : ChangeSpec := { name := "termMakes", fn := fun _ => fun
  | [d] => { results := [.lit (.bool true)], args := [d] }
  | _ => none }
def termMakesRow : OpenClaim := { program := "ytoaaplgjacjlpaa", sum := "8ccdfc5697c87b77ca9bb454aac7074059d36663aa94813fd15e347c0a0e1f34", func := "missive/missivelaw12.TermMakes", spec := "termMakes", apart := false }
def TermMakesSaid : Prop := termMakesRow.holds Try.pinned (OpenSpec.ofChange termMakesSpec)

/-- ITS FALSE NEIGHBOUR: 'it returns false'. Refute it at one input. -/
def termMakesWrong : ChangeSpec := { name := "termMakes", fn := fun _ => fun
  | [d] => { results := [.lit (.bool false)], args := [d] }
  | _ => none }
def TermMakesWrongFalsely : Prop := termMakesRow.holds Try.pinned (OpenSpec.ofChange termMakesWrong)

/-- 'missivelaw12.TermReads': WHATEVER THE INPUT: true; the input reads as it did. -/
def termReadsSpec : ChangeSpec := { name := "termReads", fn := fun _ => fun
  | [d1, d2, d3] => { results := [.lit (.bool true)], args := [d1, d2, d3] }
  | _ => none }
def termReadsRow : OpenClaim := { program := "ytoaaplgjacjlpaa", sum := "8ccdfc5697c87b77ca9bb454aac7074059d36663aa94813fd15e347c0a0e1f34", func := "missive/missivelaw12.TermReads", spec := "termReads", apart := false }
def TermReadsSaid : Prop := termReadsRow.holds Try.pinned (OpenSpec.ofChange termReadsSpec)

/-- ITS FALSE NEIGHBOUR: 'it returns false'. Refute it at one input. -/
def termReadsWrong : ChangeSpec := { name := "termReads", fn := fun _ => fun
  | [d1, d2, d3] => { results := [.lit (.bool false)], args := [d1, d2, d3] }
  | _ => none }
def TermReadsWrongFalsely : Prop := termReadsRow.holds Try.pinned (OpenSpec.ofChange termReadsWrong)

/- THE SECOND FORM. 'bulk': how many values and letters a reading holds, each counted each time it is reached (what is shared counts as often as it is met; a slice's spare places count too). A statement '..UptoSaid' is the law's where the arguments, and the package variables that the reading takes, are together of bulk at most 1048576: NARROWER than '..Said'. Prove '..Said' where nothing that the law and all that it calls make is longer than what came in: it says more and counts as full. Else prove '..UptoSaid'. A law counts once. -/
mutual
def uptoBulk {H : Type} : DataW H → Nat
  | .lit (.string bytes) => bytes.length + 1
  | .lit _ => 1
  | .nil => 1
  | .ptr d => uptoBulk d + 1
  | .slice elems spare => uptoBulkAll elems + uptoBulkAll spare + 1
  | .agg parts => uptoBulkAll parts + 1
  | .iface _ d => uptoBulk d + 1
  | .map entries => uptoBulkEntries entries + 1
  | .held _ => 1
def uptoBulkAll {H : Type} : List (DataW H) → Nat
  | [] => 0
  | d :: r => uptoBulk d + uptoBulkAll r
def uptoBulkEntries {H : Type} : List (Lit × DataW H) → Nat
  | [] => 0
  | x :: r => uptoBulkEntry x + uptoBulkEntries r
def uptoBulkEntry {H : Type} : Lit × DataW H → Nat
  | (.string bytes, d) => bytes.length + uptoBulk d + 1
  | (_, d) => uptoBulk d + 1
 end
def uptoSmall : (H : Type) → List (DataW H) → Bool := fun _ ds => decide (uptoBulkAll ds ≤ 1048576)
def OpenSpec.upto (s : _root_.Go.ChangeSpec) : _root_.Go.OpenSpec := { _root_.Go.OpenSpec.ofChange s with cond := some uptoSmall }

/-- 'missivelaw12.TermKnown', WHERE WHAT IT READS IS OF BULK AT MOST 1048576: true; the input reads as it did. -/
def termKnownUptoRow : OpenClaim := { program := "ytoaaplgjacjlpaa", sum := "8ccdfc5697c87b77ca9bb454aac7074059d36663aa94813fd15e347c0a0e1f34", func := "missive/missivelaw12.TermKnown", spec := "termKnown", apart := false, narrowed := true }
def TermKnownUptoSaid : Prop := termKnownUptoRow.holds Try.pinned (OpenSpec.upto termKnownSpec)

/-- 'missivelaw12.TermMore', WHERE WHAT IT READS IS OF BULK AT MOST 1048576: true; the input reads as it did. -/
def termMoreUptoRow : OpenClaim := { program := "ytoaaplgjacjlpaa", sum := "8ccdfc5697c87b77ca9bb454aac7074059d36663aa94813fd15e347c0a0e1f34", func := "missive/missivelaw12.TermMore", spec := "termMore", apart := false, narrowed := true }
def TermMoreUptoSaid : Prop := termMoreUptoRow.holds Try.pinned (OpenSpec.upto termMoreSpec)

/-- 'missivelaw12.TermUnlike', WHERE WHAT IT READS IS OF BULK AT MOST 1048576: true; the input reads as it did. -/
def termUnlikeUptoRow : OpenClaim := { program := "ytoaaplgjacjlpaa", sum := "8ccdfc5697c87b77ca9bb454aac7074059d36663aa94813fd15e347c0a0e1f34", func := "missive/missivelaw12.TermUnlike", spec := "termUnlike", apart := false, narrowed := true }
def TermUnlikeUptoSaid : Prop := termUnlikeUptoRow.holds Try.pinned (OpenSpec.upto termUnlikeSpec)

/-- 'missivelaw12.TermMakes', WHERE WHAT IT READS IS OF BULK AT MOST 1048576: true; the input reads as it did. -/
def termMakesUptoRow : OpenClaim := { program := "ytoaaplgjacjlpaa", sum := "8ccdfc5697c87b77ca9bb454aac7074059d36663aa94813fd15e347c0a0e1f34", func := "missive/missivelaw12.TermMakes", spec := "termMakes", apart := false, narrowed := true }
def TermMakesUptoSaid : Prop := termMakesUptoRow.holds Try.pinned (OpenSpec.upto termMakesSpec)

/-- 'missivelaw12.TermReads', WHERE WHAT IT READS IS OF BULK AT MOST 1048576: true; the input reads as it did. -/
def termReadsUptoRow : OpenClaim := { program := "ytoaaplgjacjlpaa", sum := "8ccdfc5697c87b77ca9bb454aac7074059d36663aa94813fd15e347c0a0e1f34", func := "missive/missivelaw12.TermReads", spec := "termReads", apart := false, narrowed := true }
def TermReadsUptoSaid : Prop := termReadsUptoRow.holds Try.pinned (OpenSpec.upto termReadsSpec)

end Rows
end Go.Proofs.Ytoaaplgjacjlpaa
