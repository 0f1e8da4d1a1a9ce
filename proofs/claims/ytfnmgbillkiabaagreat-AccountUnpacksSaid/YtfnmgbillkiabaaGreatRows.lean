/-
  No cell of these rows narrows 'for every input' (looked for: loops, veiled, ifaces, maps, wideKeys, modest, calm, conditions, laid).
  DERIVED. THE GIVEN ROWS OF THIS SEAT. 3 by the template 'for every input the law returns true; each argument reads behind the call as it read before'; 0 by the template 'total and deterministic' (their statements: YtfnmgbillkiabaaGreatTotals.lean).
  GIVEN WITH THE SEED: the statements are not yours to turn. If you find one false, say at which input.
  Laid BY PROGRAM, IN A SANDBOX (cutbox-rows.mjs): the forced cells as the released guide's own fill.sh prints them over the translation 3054ac99ce5c3e70… (all of the seat's roots in one cut). By AI agents, Wed Nov 11 2026. No macro, syntax, notation, axiom, sorry.
-/
import Derived.Test.YtfnmgbillkiabaaGreatChecked
import GoSem.Claim
import GoSem.ClaimJoined
import GoSem.ClaimMapViews
import Derived.JoinedTies
import Derived.KernelRfl
namespace Go.Proofs.YtfnmgbillkiabaaGreat
/- THE CELL 'sum', in the pinned program and in every row, IS THE sha256 OF THE DUMP (.gsa) THAT YtfnmgbillkiabaaGreatProg.lean LOADS. Nothing in Lean hashes anything: it is a label: what it is worth is what the hold of that sum in a sandbox is worth. -/
noncomputable def Tryz.pinned : Pinned := { name := "ytfnmgbillkiabaagreat", sum := "3054ac99ce5c3e70f0d888e504524d7972a38993e9a778954d8abb8a741de04d", checked := Tryz.checked }
namespace Rows
def none {H : Type} : Left H := { results := [], args := [] }

/-- 'missivelaw18.RatchetPlays': WHATEVER THE INPUT: true; the input reads as it did. -/
def ratchetPlaysSpec : ChangeSpec := { name := "ratchetPlays", fn := fun _ => fun
  | [d] => { results := [.lit (.bool true)], args := [d] }
  | _ => none }
def ratchetPlaysRow : OpenClaim := { program := "ytfnmgbillkiabaagreat", sum := "3054ac99ce5c3e70f0d888e504524d7972a38993e9a778954d8abb8a741de04d", func := "missive/missivelaw18.RatchetPlays", spec := "ratchetPlays", inPlace := ["math/bits.Add64"], unfollowed := true, recurses := true, apart := false }
def RatchetPlaysSaid : Prop := ratchetPlaysRow.holds Tryz.pinned (OpenSpec.ofChange ratchetPlaysSpec)

/-- ITS FALSE NEIGHBOUR: 'it returns false'. Refute it at one input. -/
def ratchetPlaysWrong : ChangeSpec := { name := "ratchetPlays", fn := fun _ => fun
  | [d] => { results := [.lit (.bool false)], args := [d] }
  | _ => none }
def RatchetPlaysWrongFalsely : Prop := ratchetPlaysRow.holds Tryz.pinned (OpenSpec.ofChange ratchetPlaysWrong)

/-- 'missivelaw19.AccountUnpacks': WHATEVER THE INPUT: true; the input reads as it did. -/
def accountUnpacksSpec : ChangeSpec := { name := "accountUnpacks", fn := fun _ => fun
  | [d] => { results := [.lit (.bool true)], args := [d] }
  | _ => none }
def accountUnpacksRow : OpenClaim := { program := "ytfnmgbillkiabaagreat", sum := "3054ac99ce5c3e70f0d888e504524d7972a38993e9a778954d8abb8a741de04d", func := "missive/missivelaw19.AccountUnpacks", spec := "accountUnpacks", inPlace := ["math/bits.Add64", "math/bits.Sub64"], unfollowed := true, recurses := true, apart := false }
def AccountUnpacksSaid : Prop := accountUnpacksRow.holds Tryz.pinned (OpenSpec.ofChange accountUnpacksSpec)

/-- ITS FALSE NEIGHBOUR: 'it returns false'. Refute it at one input. -/
def accountUnpacksWrong : ChangeSpec := { name := "accountUnpacks", fn := fun _ => fun
  | [d] => { results := [.lit (.bool false)], args := [d] }
  | _ => none }
def AccountUnpacksWrongFalsely : Prop := accountUnpacksRow.holds Tryz.pinned (OpenSpec.ofChange accountUnpacksWrong)

/-- 'missivelaw19.AccountPacks': WHATEVER THE INPUT: true; the input reads as it did. -/
def accountPacksSpec : ChangeSpec := { name := "accountPacks", fn := fun _ => fun
  | [d] => { results := [.lit (.bool true)], args := [d] }
  | _ => none }
def accountPacksRow : OpenClaim := { program := "ytfnmgbillkiabaagreat", sum := "3054ac99ce5c3e70f0d888e504524d7972a38993e9a778954d8abb8a741de04d", func := "missive/missivelaw19.AccountPacks", spec := "accountPacks", inPlace := ["math/bits.Add64", "math/bits.Sub64"], unfollowed := true, recurses := true, apart := false }
def AccountPacksSaid : Prop := accountPacksRow.holds Tryz.pinned (OpenSpec.ofChange accountPacksSpec)

/-- ITS FALSE NEIGHBOUR: 'it returns false'. Refute it at one input. -/
def accountPacksWrong : ChangeSpec := { name := "accountPacks", fn := fun _ => fun
  | [d] => { results := [.lit (.bool false)], args := [d] }
  | _ => none }
def AccountPacksWrongFalsely : Prop := accountPacksRow.holds Tryz.pinned (OpenSpec.ofChange accountPacksWrong)

/- THE SECOND FORM. 'bulk': how many values and letters a reading holds, each counted each time it is reached (what is shared counts as often as it is met; a slice's spare places count too). A statement '..UptoSaid' is the law's where the arguments, and the package variables that the reading takes, are together of bulk at most 1048576: NARROWER than '..Said'. Prove '..Said' where nothing that the law and all that it calls make is longer than what came in: it says more and counts as full. Else prove '..UptoSaid'. A law counts once. -/
mutual
def uptoBulk {H : Type} : DataW H → Nat
  | .lit (.string bytes) => bytes.length + 1
  | .lit _ => 1
  | .nil => 1
  | .ptr d => uptoBulk d + 1
  | .slice elems spare => uptoBulkAll elems + uptoBulkAll spare + 1
  | .agg parts => uptoBulkAll parts + 1
  | .iface _ d => uptoBulk d + 1
  | .map entries => uptoBulkEntries entries + 1
  | .held _ => 1
def uptoBulkAll {H : Type} : List (DataW H) → Nat
  | [] => 0
  | d :: r => uptoBulk d + uptoBulkAll r
def uptoBulkEntries {H : Type} : List (Lit × DataW H) → Nat
  | [] => 0
  | x :: r => uptoBulkEntry x + uptoBulkEntries r
def uptoBulkEntry {H : Type} : Lit × DataW H → Nat
  | (.string bytes, d) => bytes.length + uptoBulk d + 1
  | (_, d) => uptoBulk d + 1
 end
def uptoSmall : (H : Type) → List (DataW H) → Bool := fun _ ds => decide (uptoBulkAll ds ≤ 1048576)
def OpenSpec.upto (s : _root_.Go.ChangeSpec) : _root_.Go.OpenSpec := { _root_.Go.OpenSpec.ofChange s with cond := some uptoSmall }

/-- 'missivelaw18.RatchetPlays', WHERE WHAT IT READS IS OF BULK AT MOST 1048576: true; the input reads as it did. -/
def ratchetPlaysUptoRow : OpenClaim := { program := "ytfnmgbillkiabaagreat", sum := "3054ac99ce5c3e70f0d888e504524d7972a38993e9a778954d8abb8a741de04d", func := "missive/missivelaw18.RatchetPlays", spec := "ratchetPlays", inPlace := ["math/bits.Add64"], unfollowed := true, recurses := true, apart := false, narrowed := true }
def RatchetPlaysUptoSaid : Prop := ratchetPlaysUptoRow.holds Tryz.pinned (OpenSpec.upto ratchetPlaysSpec)

/-- 'missivelaw19.AccountUnpacks', WHERE WHAT IT READS IS OF BULK AT MOST 1048576: true; the input reads as it did. -/
def accountUnpacksUptoRow : OpenClaim := { program := "ytfnmgbillkiabaagreat", sum := "3054ac99ce5c3e70f0d888e504524d7972a38993e9a778954d8abb8a741de04d", func := "missive/missivelaw19.AccountUnpacks", spec := "accountUnpacks", inPlace := ["math/bits.Add64", "math/bits.Sub64"], unfollowed := true, recurses := true, apart := false, narrowed := true }
def AccountUnpacksUptoSaid : Prop := accountUnpacksUptoRow.holds Tryz.pinned (OpenSpec.upto accountUnpacksSpec)

/-- 'missivelaw19.AccountPacks', WHERE WHAT IT READS IS OF BULK AT MOST 1048576: true; the input reads as it did. -/
def accountPacksUptoRow : OpenClaim := { program := "ytfnmgbillkiabaagreat", sum := "3054ac99ce5c3e70f0d888e504524d7972a38993e9a778954d8abb8a741de04d", func := "missive/missivelaw19.AccountPacks", spec := "accountPacks", inPlace := ["math/bits.Add64", "math/bits.Sub64"], unfollowed := true, recurses := true, apart := false, narrowed := true }
def AccountPacksUptoSaid : Prop := accountPacksUptoRow.holds Tryz.pinned (OpenSpec.upto accountPacksSpec)

end Rows
end Go.Proofs.YtfnmgbillkiabaaGreat
