/-
  No cell of these rows narrows 'for every input' (looked for: loops, veiled, ifaces, maps, wideKeys, modest, calm, conditions, laid).
  DERIVED. THE GIVEN ROWS OF THIS SEAT. 6 by the template 'for every input the law returns true; each argument reads behind the call as it read before'; 0 by the template 'total and deterministic' (their statements: YtkhnailodbkmhaaTotals.lean).
  GIVEN WITH THE SEED: the statements are not yours to turn. If you find one false, say at which input.
  Laid BY PROGRAM, IN A SANDBOX (cutbox-rows.mjs): the forced cells as the released guide's own fill.sh prints them over the translation f20911406d35cc58… (all of the seat's roots in one cut). By AI agents, Wed Nov 11 2026. No macro, syntax, notation, axiom, sorry.
-/
import Derived.Test.YtkhnailodbkmhaaChecked
import GoSem.Claim
import GoSem.ClaimJoined
import GoSem.ClaimMapViews
import Derived.JoinedTies
import Derived.KernelRfl
namespace Go.Proofs.Ytkhnailodbkmhaa
/- THE CELL 'sum', in the pinned program and in every row, IS THE sha256 OF THE DUMP (.gsa) THAT YtkhnailodbkmhaaProg.lean LOADS. Nothing in Lean hashes anything: it is a label: what it is worth is what the hold of that sum in a sandbox is worth. -/
noncomputable def Try.pinned : Pinned := { name := "ytkhnailodbkmhaa", sum := "f20911406d35cc583d6582fd7f243b1bf647c889474a5e9580b6d429c1539469", checked := Try.checked }
namespace Rows
def none {H : Type} : Left H := { results := [], args := [] }

/-- 'missivelaw17.ChainNexts': WHATEVER THE INPUT: true; the input reads as it did. -/
def chainNextsSpec : ChangeSpec := { name := "chainNexts", fn := fun _ => fun
  | [d1, d2, d3] => { results := [.lit (.bool true)], args := [d1, d2, d3] }
  | _ => none }
def chainNextsRow : OpenClaim := { program := "ytkhnailodbkmhaa", sum := "f20911406d35cc583d6582fd7f243b1bf647c889474a5e9580b6d429c1539469", func := "missive/missivelaw17.ChainNexts", spec := "chainNexts", apart := false }
def ChainNextsSaid : Prop := chainNextsRow.holds Try.pinned (OpenSpec.ofChange chainNextsSpec)

/-- ITS FALSE NEIGHBOUR: 'it returns false'. Refute it at one input. -/
def chainNextsWrong : ChangeSpec := { name := "chainNexts", fn := fun _ => fun
  | [d1, d2, d3] => { results := [.lit (.bool false)], args := [d1, d2, d3] }
  | _ => none }
def ChainNextsWrongFalsely : Prop := chainNextsRow.holds Try.pinned (OpenSpec.ofChange chainNextsWrong)

/-- 'missivelaw17.ChainSkips': WHATEVER THE INPUT: true; the input reads as it did. -/
def chainSkipsSpec : ChangeSpec := { name := "chainSkips", fn := fun _ => fun
  | [d1, d2, d3, d4, d5] => { results := [.lit (.bool true)], args := [d1, d2, d3, d4, d5] }
  | _ => none }
def chainSkipsRow : OpenClaim := { program := "ytkhnailodbkmhaa", sum := "f20911406d35cc583d6582fd7f243b1bf647c889474a5e9580b6d429c1539469", func := "missive/missivelaw17.ChainSkips", spec := "chainSkips", apart := false }
def ChainSkipsSaid : Prop := chainSkipsRow.holds Try.pinned (OpenSpec.ofChange chainSkipsSpec)

/-- ITS FALSE NEIGHBOUR: 'it returns false'. Refute it at one input. -/
def chainSkipsWrong : ChangeSpec := { name := "chainSkips", fn := fun _ => fun
  | [d1, d2, d3, d4, d5] => { results := [.lit (.bool false)], args := [d1, d2, d3, d4, d5] }
  | _ => none }
def ChainSkipsWrongFalsely : Prop := chainSkipsRow.holds Try.pinned (OpenSpec.ofChange chainSkipsWrong)

/-- 'missivelaw17.ChainCut': WHATEVER THE INPUT: true; the input reads as it did. -/
def chainCutSpec : ChangeSpec := { name := "chainCut", fn := fun _ => fun
  | [d1, d2, d3, d4, d5] => { results := [.lit (.bool true)], args := [d1, d2, d3, d4, d5] }
  | _ => none }
def chainCutRow : OpenClaim := { program := "ytkhnailodbkmhaa", sum := "f20911406d35cc583d6582fd7f243b1bf647c889474a5e9580b6d429c1539469", func := "missive/missivelaw17.ChainCut", spec := "chainCut", apart := false }
def ChainCutSaid : Prop := chainCutRow.holds Try.pinned (OpenSpec.ofChange chainCutSpec)

/-- ITS FALSE NEIGHBOUR: 'it returns false'. Refute it at one input. -/
def chainCutWrong : ChangeSpec := { name := "chainCut", fn := fun _ => fun
  | [d1, d2, d3, d4, d5] => { results := [.lit (.bool false)], args := [d1, d2, d3, d4, d5] }
  | _ => none }
def ChainCutWrongFalsely : Prop := chainCutRow.holds Try.pinned (OpenSpec.ofChange chainCutWrong)

/-- 'missivelaw17.ChainSpare': WHATEVER THE INPUT: true; the input reads as it did. -/
def chainSpareSpec : ChangeSpec := { name := "chainSpare", fn := fun _ => fun
  | [d1, d2, d3] => { results := [.lit (.bool true)], args := [d1, d2, d3] }
  | _ => none }
def chainSpareRow : OpenClaim := { program := "ytkhnailodbkmhaa", sum := "f20911406d35cc583d6582fd7f243b1bf647c889474a5e9580b6d429c1539469", func := "missive/missivelaw17.ChainSpare", spec := "chainSpare", apart := false }
def ChainSpareSaid : Prop := chainSpareRow.holds Try.pinned (OpenSpec.ofChange chainSpareSpec)

/-- ITS FALSE NEIGHBOUR: 'it returns false'. Refute it at one input. -/
def chainSpareWrong : ChangeSpec := { name := "chainSpare", fn := fun _ => fun
  | [d1, d2, d3] => { results := [.lit (.bool false)], args := [d1, d2, d3] }
  | _ => none }
def ChainSpareWrongFalsely : Prop := chainSpareRow.holds Try.pinned (OpenSpec.ofChange chainSpareWrong)

/-- 'missivelaw17.ChainKeeps': WHATEVER THE INPUT: true; the input reads as it did. -/
def chainKeepsSpec : ChangeSpec := { name := "chainKeeps", fn := fun _ => fun
  | [d1, d2, d3, d4] => { results := [.lit (.bool true)], args := [d1, d2, d3, d4] }
  | _ => none }
def chainKeepsRow : OpenClaim := { program := "ytkhnailodbkmhaa", sum := "f20911406d35cc583d6582fd7f243b1bf647c889474a5e9580b6d429c1539469", func := "missive/missivelaw17.ChainKeeps", spec := "chainKeeps", apart := false }
def ChainKeepsSaid : Prop := chainKeepsRow.holds Try.pinned (OpenSpec.ofChange chainKeepsSpec)

/-- ITS FALSE NEIGHBOUR: 'it returns false'. Refute it at one input. -/
def chainKeepsWrong : ChangeSpec := { name := "chainKeeps", fn := fun _ => fun
  | [d1, d2, d3, d4] => { results := [.lit (.bool false)], args := [d1, d2, d3, d4] }
  | _ => none }
def ChainKeepsWrongFalsely : Prop := chainKeepsRow.holds Try.pinned (OpenSpec.ofChange chainKeepsWrong)

/-- 'missivelaw17.ChainRoots': WHATEVER THE INPUT: true; the input reads as it did. -/
def chainRootsSpec : ChangeSpec := { name := "chainRoots", fn := fun _ => fun
  | [d1, d2, d3] => { results := [.lit (.bool true)], args := [d1, d2, d3] }
  | _ => none }
def chainRootsRow : OpenClaim := { program := "ytkhnailodbkmhaa", sum := "f20911406d35cc583d6582fd7f243b1bf647c889474a5e9580b6d429c1539469", func := "missive/missivelaw17.ChainRoots", spec := "chainRoots", apart := false }
def ChainRootsSaid : Prop := chainRootsRow.holds Try.pinned (OpenSpec.ofChange chainRootsSpec)

/-- ITS FALSE NEIGHBOUR: 'it returns false'. Refute it at one input. -/
def chainRootsWrong : ChangeSpec := { name := "chainRoots", fn := fun _ => fun
  | [d1, d2, d3] => { results := [.lit (.bool false)], args := [d1, d2, d3] }
  | _ => none }
def ChainRootsWrongFalsely : Prop := chainRootsRow.holds Try.pinned (OpenSpec.ofChange chainRootsWrong)

/- THE SECOND FORM. 'bulk': how many values and letters a reading holds, each counted each time it is reached (what is shared counts as often as it is met; a slice's spare places count too). A statement '..UptoSaid' is the law's where the arguments, and the package variables that the reading takes, are together of bulk at most 1048576: NARROWER than '..Said'. Prove '..Said' where nothing that the law and all that it calls make is longer than what came in: it says more and counts as full. Else prove '..UptoSaid'. A law counts once. -/
mutual
def uptoBulk {H : Type} : DataW H → Nat
  | .lit (.string bytes) => bytes.length + 1
  | .lit _ => 1
  | .nil => 1
  | .ptr d => uptoBulk d + 1
  | .slice elems spare => uptoBulkAll elems + uptoBulkAll spare + 1
  | .agg parts => uptoBulkAll parts + 1
  | .iface _ d => uptoBulk d + 1
  | .map entries => uptoBulkEntries entries + 1
  | .held _ => 1
def uptoBulkAll {H : Type} : List (DataW H) → Nat
  | [] => 0
  | d :: r => uptoBulk d + uptoBulkAll r
def uptoBulkEntries {H : Type} : List (Lit × DataW H) → Nat
  | [] => 0
  | x :: r => uptoBulkEntry x + uptoBulkEntries r
def uptoBulkEntry {H : Type} : Lit × DataW H → Nat
  | (.string bytes, d) => bytes.length + uptoBulk d + 1
  | (_, d) => uptoBulk d + 1
 end
def uptoSmall : (H : Type) → List (DataW H) → Bool := fun _ ds => decide (uptoBulkAll ds ≤ 1048576)
def OpenSpec.upto (s : _root_.Go.ChangeSpec) : _root_.Go.OpenSpec := { _root_.Go.OpenSpec.ofChange s with cond := some uptoSmall }

/-- 'missivelaw17.ChainNexts', WHERE WHAT IT READS IS OF BULK AT MOST 1048576: true; the input reads as it did. -/
def chainNextsUptoRow : OpenClaim := { program := "ytkhnailodbkmhaa", sum := "f20911406d35cc583d6582fd7f243b1bf647c889474a5e9580b6d429c1539469", func := "missive/missivelaw17.ChainNexts", spec := "chainNexts", apart := false, narrowed := true }
def ChainNextsUptoSaid : Prop := chainNextsUptoRow.holds Try.pinned (OpenSpec.upto chainNextsSpec)

/-- 'missivelaw17.ChainSkips', WHERE WHAT IT READS IS OF BULK AT MOST 1048576: true; the input reads as it did. -/
def chainSkipsUptoRow : OpenClaim := { program := "ytkhnailodbkmhaa", sum := "f20911406d35cc583d6582fd7f243b1bf647c889474a5e9580b6d429c1539469", func := "missive/missivelaw17.ChainSkips", spec := "chainSkips", apart := false, narrowed := true }
def ChainSkipsUptoSaid : Prop := chainSkipsUptoRow.holds Try.pinned (OpenSpec.upto chainSkipsSpec)

/-- 'missivelaw17.ChainCut', WHERE WHAT IT READS IS OF BULK AT MOST 1048576: true; the input reads as it did. -/
def chainCutUptoRow : OpenClaim := { program := "ytkhnailodbkmhaa", sum := "f20911406d35cc583d6582fd7f243b1bf647c889474a5e9580b6d429c1539469", func := "missive/missivelaw17.ChainCut", spec := "chainCut", apart := false, narrowed := true }
def ChainCutUptoSaid : Prop := chainCutUptoRow.holds Try.pinned (OpenSpec.upto chainCutSpec)

/-- 'missivelaw17.ChainSpare', WHERE WHAT IT READS IS OF BULK AT MOST 1048576: true; the input reads as it did. -/
def chainSpareUptoRow : OpenClaim := { program := "ytkhnailodbkmhaa", sum := "f20911406d35cc583d6582fd7f243b1bf647c889474a5e9580b6d429c1539469", func := "missive/missivelaw17.ChainSpare", spec := "chainSpare", apart := false, narrowed := true }
def ChainSpareUptoSaid : Prop := chainSpareUptoRow.holds Try.pinned (OpenSpec.upto chainSpareSpec)

/-- 'missivelaw17.ChainKeeps', WHERE WHAT IT READS IS OF BULK AT MOST 1048576: true; the input reads as it did. -/
def chainKeepsUptoRow : OpenClaim := { program := "ytkhnailodbkmhaa", sum := "f20911406d35cc583d6582fd7f243b1bf647c889474a5e9580b6d429c1539469", func := "missive/missivelaw17.ChainKeeps", spec := "chainKeeps", apart := false, narrowed := true }
def ChainKeepsUptoSaid : Prop := chainKeepsUptoRow.holds Try.pinned (OpenSpec.upto chainKeepsSpec)

/-- 'missivelaw17.ChainRoots', WHERE WHAT IT READS IS OF BULK AT MOST 1048576: true; the input reads as it did. -/
def chainRootsUptoRow : OpenClaim := { program := "ytkhnailodbkmhaa", sum := "f20911406d35cc583d6582fd7f243b1bf647c889474a5e9580b6d429c1539469", func := "missive/missivelaw17.ChainRoots", spec := "chainRoots", apart := false, narrowed := true }
def ChainRootsUptoSaid : Prop := chainRootsUptoRow.holds Try.pinned (OpenSpec.upto chainRootsSpec)

end Rows
end Go.Proofs.Ytkhnailodbkmhaa
