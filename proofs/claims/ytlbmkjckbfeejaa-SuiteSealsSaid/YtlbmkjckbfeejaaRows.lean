/-
  No cell of these rows narrows 'for every input' (looked for: loops, veiled, ifaces, maps, wideKeys, modest, calm, conditions, laid).
  DERIVED. THE GIVEN ROWS OF THIS SEAT. 3 by the template 'for every input the law returns true; each argument reads behind the call as it read before'; 0 by the template 'total and deterministic' (their statements: YtlbmkjckbfeejaaTotals.lean).
  GIVEN WITH THE SEED: the statements are not yours to turn. If you find one false, say at which input.
  Laid BY PROGRAM, IN A SANDBOX (cutbox-rows.mjs): the forced cells as the released guide's own fill.sh prints them over the translation db469e646218076e… (all of the seat's roots in one cut). By AI agents, Wed Nov 11 2026. No macro, syntax, notation, axiom, sorry.
-/
import Derived.Test.YtlbmkjckbfeejaaChecked
import GoSem.Claim
import GoSem.ClaimJoined
import GoSem.ClaimMapViews
import Derived.JoinedTies
import Derived.KernelRfl
namespace Go.Proofs.Ytlbmkjckbfeejaa
/- THE CELL 'sum', in the pinned program and in every row, IS THE sha256 OF THE DUMP (.gsa) THAT YtlbmkjckbfeejaaProg.lean LOADS. Nothing in Lean hashes anything: it is a label: what it is worth is what the hold of that sum in a sandbox is worth. -/
noncomputable def Try.pinned : Pinned := { name := "ytlbmkjckbfeejaa", sum := "db469e646218076e5b67cf1cfc20055c0bb1d18cd5576bb5f6cf87f88d01fc34", checked := Try.checked }
namespace Rows
def none {H : Type} : Left H := { results := [], args := [] }

/-- 'missivelaw13.SuiteSeals': WHATEVER THE INPUT: true; the input reads as it did. -/
def suiteSealsSpec : ChangeSpec := { name := "suiteSeals", fn := fun _ => fun
  | [d1, d2, d3] => { results := [.lit (.bool true)], args := [d1, d2, d3] }
  | _ => none }
def suiteSealsRow : OpenClaim := { program := "ytlbmkjckbfeejaa", sum := "db469e646218076e5b67cf1cfc20055c0bb1d18cd5576bb5f6cf87f88d01fc34", func := "missive/missivelaw13.SuiteSeals", spec := "suiteSeals", apart := false }
def SuiteSealsSaid : Prop := suiteSealsRow.holds Try.pinned (OpenSpec.ofChange suiteSealsSpec)

/-- ITS FALSE NEIGHBOUR: 'it returns false'. Refute it at one input. -/
def suiteSealsWrong : ChangeSpec := { name := "suiteSeals", fn := fun _ => fun
  | [d1, d2, d3] => { results := [.lit (.bool false)], args := [d1, d2, d3] }
  | _ => none }
def SuiteSealsWrongFalsely : Prop := suiteSealsRow.holds Try.pinned (OpenSpec.ofChange suiteSealsWrong)

/-- 'missivelaw13.SuiteSizes': WHATEVER THE INPUT: true; the input reads as it did. -/
def suiteSizesSpec : ChangeSpec := { name := "suiteSizes", fn := fun _ => fun
  | [d] => { results := [.lit (.bool true)], args := [d] }
  | _ => none }
def suiteSizesRow : OpenClaim := { program := "ytlbmkjckbfeejaa", sum := "db469e646218076e5b67cf1cfc20055c0bb1d18cd5576bb5f6cf87f88d01fc34", func := "missive/missivelaw13.SuiteSizes", spec := "suiteSizes", apart := false }
def SuiteSizesSaid : Prop := suiteSizesRow.holds Try.pinned (OpenSpec.ofChange suiteSizesSpec)

/-- ITS FALSE NEIGHBOUR: 'it returns false'. Refute it at one input. -/
def suiteSizesWrong : ChangeSpec := { name := "suiteSizes", fn := fun _ => fun
  | [d] => { results := [.lit (.bool false)], args := [d] }
  | _ => none }
def SuiteSizesWrongFalsely : Prop := suiteSizesRow.holds Try.pinned (OpenSpec.ofChange suiteSizesWrong)

/-- 'missivelaw13.SuiteMixes': WHATEVER THE INPUT: true; the input reads as it did. -/
def suiteMixesSpec : ChangeSpec := { name := "suiteMixes", fn := fun _ => fun
  | [d1, d2, d3] => { results := [.lit (.bool true)], args := [d1, d2, d3] }
  | _ => none }
def suiteMixesRow : OpenClaim := { program := "ytlbmkjckbfeejaa", sum := "db469e646218076e5b67cf1cfc20055c0bb1d18cd5576bb5f6cf87f88d01fc34", func := "missive/missivelaw13.SuiteMixes", spec := "suiteMixes", apart := false }
def SuiteMixesSaid : Prop := suiteMixesRow.holds Try.pinned (OpenSpec.ofChange suiteMixesSpec)

/-- ITS FALSE NEIGHBOUR: 'it returns false'. Refute it at one input. -/
def suiteMixesWrong : ChangeSpec := { name := "suiteMixes", fn := fun _ => fun
  | [d1, d2, d3] => { results := [.lit (.bool false)], args := [d1, d2, d3] }
  | _ => none }
def SuiteMixesWrongFalsely : Prop := suiteMixesRow.holds Try.pinned (OpenSpec.ofChange suiteMixesWrong)

/- THE SECOND FORM. 'bulk': how many values and letters a reading holds, each counted each time it is reached (what is shared counts as often as it is met; a slice's spare places count too). A statement '..UptoSaid' is the law's where the arguments, and the package variables that the reading takes, are together of bulk at most 1048576: NARROWER than '..Said'. Prove '..Said' where nothing that the law and all that it calls make is longer than what came in: it says more and counts as full. Else prove '..UptoSaid'. A law counts once. -/
mutual
def uptoBulk {H : Type} : DataW H → Nat
  | .lit (.string bytes) => bytes.length + 1
  | .lit _ => 1
  | .nil => 1
  | .ptr d => uptoBulk d + 1
  | .slice elems spare => uptoBulkAll elems + uptoBulkAll spare + 1
  | .agg parts => uptoBulkAll parts + 1
  | .iface _ d => uptoBulk d + 1
  | .map entries => uptoBulkEntries entries + 1
  | .held _ => 1
def uptoBulkAll {H : Type} : List (DataW H) → Nat
  | [] => 0
  | d :: r => uptoBulk d + uptoBulkAll r
def uptoBulkEntries {H : Type} : List (Lit × DataW H) → Nat
  | [] => 0
  | x :: r => uptoBulkEntry x + uptoBulkEntries r
def uptoBulkEntry {H : Type} : Lit × DataW H → Nat
  | (.string bytes, d) => bytes.length + uptoBulk d + 1
  | (_, d) => uptoBulk d + 1
 end
def uptoSmall : (H : Type) → List (DataW H) → Bool := fun _ ds => decide (uptoBulkAll ds ≤ 1048576)
def OpenSpec.upto (s : _root_.Go.ChangeSpec) : _root_.Go.OpenSpec := { _root_.Go.OpenSpec.ofChange s with cond := some uptoSmall }

/-- 'missivelaw13.SuiteSeals', WHERE WHAT IT READS IS OF BULK AT MOST 1048576: true; the input reads as it did. -/
def suiteSealsUptoRow : OpenClaim := { program := "ytlbmkjckbfeejaa", sum := "db469e646218076e5b67cf1cfc20055c0bb1d18cd5576bb5f6cf87f88d01fc34", func := "missive/missivelaw13.SuiteSeals", spec := "suiteSeals", apart := false, narrowed := true }
def SuiteSealsUptoSaid : Prop := suiteSealsUptoRow.holds Try.pinned (OpenSpec.upto suiteSealsSpec)

/-- 'missivelaw13.SuiteSizes', WHERE WHAT IT READS IS OF BULK AT MOST 1048576: true; the input reads as it did. -/
def suiteSizesUptoRow : OpenClaim := { program := "ytlbmkjckbfeejaa", sum := "db469e646218076e5b67cf1cfc20055c0bb1d18cd5576bb5f6cf87f88d01fc34", func := "missive/missivelaw13.SuiteSizes", spec := "suiteSizes", apart := false, narrowed := true }
def SuiteSizesUptoSaid : Prop := suiteSizesUptoRow.holds Try.pinned (OpenSpec.upto suiteSizesSpec)

/-- 'missivelaw13.SuiteMixes', WHERE WHAT IT READS IS OF BULK AT MOST 1048576: true; the input reads as it did. -/
def suiteMixesUptoRow : OpenClaim := { program := "ytlbmkjckbfeejaa", sum := "db469e646218076e5b67cf1cfc20055c0bb1d18cd5576bb5f6cf87f88d01fc34", func := "missive/missivelaw13.SuiteMixes", spec := "suiteMixes", apart := false, narrowed := true }
def SuiteMixesUptoSaid : Prop := suiteMixesUptoRow.holds Try.pinned (OpenSpec.upto suiteMixesSpec)

end Rows
end Go.Proofs.Ytlbmkjckbfeejaa
