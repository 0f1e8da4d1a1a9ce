/-
  No cell of these rows narrows 'for every input' (looked for: loops, veiled, ifaces, maps, wideKeys, modest, calm, conditions, laid).
  DERIVED. THE GIVEN ROWS OF THIS SEAT. 3 by the template 'for every input the law returns true; each argument reads behind the call as it read before'; 0 by the template 'total and deterministic' (their statements: YtpkllkbmoodniaaTotals.lean).
  GIVEN WITH THE SEED: the statements are not yours to turn. If you find one false, say at which input.
  Laid BY PROGRAM, IN A SANDBOX (cutbox-rows.mjs): the forced cells as the released guide's own fill.sh prints them over the translation 7b0f6ba586980a0b… (all of the seat's roots in one cut). By AI agents, Wed Nov 11 2026. No macro, syntax, notation, axiom, sorry.
-/
import Derived.Test.YtpkllkbmoodniaaChecked
import GoSem.Claim
import GoSem.ClaimJoined
import GoSem.ClaimMapViews
import Derived.JoinedTies
import Derived.KernelRfl
namespace Go.Proofs.Ytpkllkbmoodniaa
/- THE CELL 'sum', in the pinned program and in every row, IS THE sha256 OF THE DUMP (.gsa) THAT YtpkllkbmoodniaaProg.lean LOADS. Nothing in Lean hashes anything: it is a label: what it is worth is what the hold of that sum in a sandbox is worth. -/
noncomputable def Try.pinned : Pinned := { name := "ytpkllkbmoodniaa", sum := "7b0f6ba586980a0b6a9e61344755627297f26764cacd422648adaeefb2813cd8", checked := Try.checked }
namespace Rows
def none {H : Type} : Left H := { results := [], args := [] }

/-- 'missivelaw18.RatchetTurned': WHATEVER THE INPUT: true; the input reads as it did. -/
def ratchetTurnedSpec : ChangeSpec := { name := "ratchetTurned", fn := fun _ => fun
  | [d1, d2, d3, d4] => { results := [.lit (.bool true)], args := [d1, d2, d3, d4] }
  | _ => none }
def ratchetTurnedRow : OpenClaim := { program := "ytpkllkbmoodniaa", sum := "7b0f6ba586980a0b6a9e61344755627297f26764cacd422648adaeefb2813cd8", func := "missive/missivelaw18.RatchetTurned", spec := "ratchetTurned", inPlace := ["math/bits.Add64"], unfollowed := true, recurses := true, apart := false }
def RatchetTurnedSaid : Prop := ratchetTurnedRow.holds Try.pinned (OpenSpec.ofChange ratchetTurnedSpec)

/-- ITS FALSE NEIGHBOUR: 'it returns false'. Refute it at one input. -/
def ratchetTurnedWrong : ChangeSpec := { name := "ratchetTurned", fn := fun _ => fun
  | [d1, d2, d3, d4] => { results := [.lit (.bool false)], args := [d1, d2, d3, d4] }
  | _ => none }
def RatchetTurnedWrongFalsely : Prop := ratchetTurnedRow.holds Try.pinned (OpenSpec.ofChange ratchetTurnedWrong)

/-- 'missivelaw13.SuiteFree': WHATEVER THE INPUT: true; the input reads as it did. -/
def suiteFreeSpec : ChangeSpec := { name := "suiteFree", fn := fun _ => fun
  | [d1, d2, d3, d4] => { results := [.lit (.bool true)], args := [d1, d2, d3, d4] }
  | _ => none }
def suiteFreeRow : OpenClaim := { program := "ytpkllkbmoodniaa", sum := "7b0f6ba586980a0b6a9e61344755627297f26764cacd422648adaeefb2813cd8", func := "missive/missivelaw13.SuiteFree", spec := "suiteFree", inPlace := ["math/bits.Add64", "math/bits.Sub64"], unfollowed := true, recurses := true, apart := false }
def SuiteFreeSaid : Prop := suiteFreeRow.holds Try.pinned (OpenSpec.ofChange suiteFreeSpec)

/-- ITS FALSE NEIGHBOUR: 'it returns false'. Refute it at one input. -/
def suiteFreeWrong : ChangeSpec := { name := "suiteFree", fn := fun _ => fun
  | [d1, d2, d3, d4] => { results := [.lit (.bool false)], args := [d1, d2, d3, d4] }
  | _ => none }
def SuiteFreeWrongFalsely : Prop := suiteFreeRow.holds Try.pinned (OpenSpec.ofChange suiteFreeWrong)

/-- 'missivelaw18.RatchetPacks': WHATEVER THE INPUT: true; the input reads as it did. -/
def ratchetPacksSpec : ChangeSpec := { name := "ratchetPacks", fn := fun _ => fun
  | [d] => { results := [.lit (.bool true)], args := [d] }
  | _ => none }
def ratchetPacksRow : OpenClaim := { program := "ytpkllkbmoodniaa", sum := "7b0f6ba586980a0b6a9e61344755627297f26764cacd422648adaeefb2813cd8", func := "missive/missivelaw18.RatchetPacks", spec := "ratchetPacks", inPlace := ["math/bits.Add64"], unfollowed := true, recurses := true, apart := false }
def RatchetPacksSaid : Prop := ratchetPacksRow.holds Try.pinned (OpenSpec.ofChange ratchetPacksSpec)

/-- ITS FALSE NEIGHBOUR: 'it returns false'. Refute it at one input. -/
def ratchetPacksWrong : ChangeSpec := { name := "ratchetPacks", fn := fun _ => fun
  | [d] => { results := [.lit (.bool false)], args := [d] }
  | _ => none }
def RatchetPacksWrongFalsely : Prop := ratchetPacksRow.holds Try.pinned (OpenSpec.ofChange ratchetPacksWrong)

/- THE SECOND FORM. 'bulk': how many values and letters a reading holds, each counted each time it is reached (what is shared counts as often as it is met; a slice's spare places count too). A statement '..UptoSaid' is the law's where the arguments, and the package variables that the reading takes, are together of bulk at most 1048576: NARROWER than '..Said'. Prove '..Said' where nothing that the law and all that it calls make is longer than what came in: it says more and counts as full. Else prove '..UptoSaid'. A law counts once. -/
mutual
def uptoBulk {H : Type} : DataW H → Nat
  | .lit (.string bytes) => bytes.length + 1
  | .lit _ => 1
  | .nil => 1
  | .ptr d => uptoBulk d + 1
  | .slice elems spare => uptoBulkAll elems + uptoBulkAll spare + 1
  | .agg parts => uptoBulkAll parts + 1
  | .iface _ d => uptoBulk d + 1
  | .map entries => uptoBulkEntries entries + 1
  | .held _ => 1
def uptoBulkAll {H : Type} : List (DataW H) → Nat
  | [] => 0
  | d :: r => uptoBulk d + uptoBulkAll r
def uptoBulkEntries {H : Type} : List (Lit × DataW H) → Nat
  | [] => 0
  | x :: r => uptoBulkEntry x + uptoBulkEntries r
def uptoBulkEntry {H : Type} : Lit × DataW H → Nat
  | (.string bytes, d) => bytes.length + uptoBulk d + 1
  | (_, d) => uptoBulk d + 1
 end
def uptoSmall : (H : Type) → List (DataW H) → Bool := fun _ ds => decide (uptoBulkAll ds ≤ 1048576)
def OpenSpec.upto (s : _root_.Go.ChangeSpec) : _root_.Go.OpenSpec := { _root_.Go.OpenSpec.ofChange s with cond := some uptoSmall }

/-- 'missivelaw18.RatchetTurned', WHERE WHAT IT READS IS OF BULK AT MOST 1048576: true; the input reads as it did. -/
def ratchetTurnedUptoRow : OpenClaim := { program := "ytpkllkbmoodniaa", sum := "7b0f6ba586980a0b6a9e61344755627297f26764cacd422648adaeefb2813cd8", func := "missive/missivelaw18.RatchetTurned", spec := "ratchetTurned", inPlace := ["math/bits.Add64"], unfollowed := true, recurses := true, apart := false, narrowed := true }
def RatchetTurnedUptoSaid : Prop := ratchetTurnedUptoRow.holds Try.pinned (OpenSpec.upto ratchetTurnedSpec)

/-- 'missivelaw13.SuiteFree', WHERE WHAT IT READS IS OF BULK AT MOST 1048576: true; the input reads as it did. -/
def suiteFreeUptoRow : OpenClaim := { program := "ytpkllkbmoodniaa", sum := "7b0f6ba586980a0b6a9e61344755627297f26764cacd422648adaeefb2813cd8", func := "missive/missivelaw13.SuiteFree", spec := "suiteFree", inPlace := ["math/bits.Add64", "math/bits.Sub64"], unfollowed := true, recurses := true, apart := false, narrowed := true }
def SuiteFreeUptoSaid : Prop := suiteFreeUptoRow.holds Try.pinned (OpenSpec.upto suiteFreeSpec)

/-- 'missivelaw18.RatchetPacks', WHERE WHAT IT READS IS OF BULK AT MOST 1048576: true; the input reads as it did. -/
def ratchetPacksUptoRow : OpenClaim := { program := "ytpkllkbmoodniaa", sum := "7b0f6ba586980a0b6a9e61344755627297f26764cacd422648adaeefb2813cd8", func := "missive/missivelaw18.RatchetPacks", spec := "ratchetPacks", inPlace := ["math/bits.Add64"], unfollowed := true, recurses := true, apart := false, narrowed := true }
def RatchetPacksUptoSaid : Prop := ratchetPacksUptoRow.holds Try.pinned (OpenSpec.upto ratchetPacksSpec)

end Rows
end Go.Proofs.Ytpkllkbmoodniaa
