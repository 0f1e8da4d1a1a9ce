/-
  No cell of these rows narrows 'for every input' (looked for: loops, veiled, ifaces, maps, wideKeys, modest, calm, conditions, laid).
  DERIVED. THE GIVEN ROWS OF THIS SEAT. 3 by the template 'for every input the law returns true; each argument reads behind the call as it read before'; 0 by the template 'total and deterministic' (their statements: YtpkllkbmoodniaaGreatTotals.lean).
  GIVEN WITH THE SEED: the statements are not yours to turn. If you find one false, say at which input.
  Laid BY PROGRAM, IN A SANDBOX (cutbox-rows.mjs): the forced cells as the released guide's own fill.sh prints them over the translation 095674868e619215… (all of the seat's roots in one cut). By AI agents, Wed Nov 11 2026. No macro, syntax, notation, axiom, sorry.
-/
import Derived.Test.YtpkllkbmoodniaaGreatChecked
import GoSem.Claim
import GoSem.ClaimJoined
import GoSem.ClaimMapViews
import Derived.JoinedTies
import Derived.KernelRfl
namespace Go.Proofs.YtpkllkbmoodniaaGreat
/- THE CELL 'sum', in the pinned program and in every row, IS THE sha256 OF THE DUMP (.gsa) THAT YtpkllkbmoodniaaGreatProg.lean LOADS. Nothing in Lean hashes anything: it is a label: what it is worth is what the hold of that sum in a sandbox is worth. -/
noncomputable def Tryz.pinned : Pinned := { name := "ytpkllkbmoodniaagreat", sum := "095674868e619215a10387808be0b25e54e155235514a1b474bd750ab018f3fc", checked := Tryz.checked }
namespace Rows
def none {H : Type} : Left H := { results := [], args := [] }

/-- 'missivelaw18.RatchetPlays': WHATEVER THE INPUT: true; the input reads as it did. -/
def ratchetPlaysSpec : ChangeSpec := { name := "ratchetPlays", fn := fun _ => fun
  | [d] => { results := [.lit (.bool true)], args := [d] }
  | _ => none }
def ratchetPlaysRow : OpenClaim := { program := "ytpkllkbmoodniaagreat", sum := "095674868e619215a10387808be0b25e54e155235514a1b474bd750ab018f3fc", func := "missive/missivelaw18.RatchetPlays", spec := "ratchetPlays", inPlace := ["math/bits.Add64"], unfollowed := true, recurses := true, apart := false }
def RatchetPlaysSaid : Prop := ratchetPlaysRow.holds Tryz.pinned (OpenSpec.ofChange ratchetPlaysSpec)

/-- ITS FALSE NEIGHBOUR: 'it returns false'. Refute it at one input. -/
def ratchetPlaysWrong : ChangeSpec := { name := "ratchetPlays", fn := fun _ => fun
  | [d] => { results := [.lit (.bool false)], args := [d] }
  | _ => none }
def RatchetPlaysWrongFalsely : Prop := ratchetPlaysRow.holds Tryz.pinned (OpenSpec.ofChange ratchetPlaysWrong)

/-- 'missivelaw18.RatchetAny': WHATEVER THE INPUT: true; the input reads as it did. -/
def ratchetAnySpec : ChangeSpec := { name := "ratchetAny", fn := fun _ => fun
  | [d1, d2, d3, d4, d5] => { results := [.lit (.bool true)], args := [d1, d2, d3, d4, d5] }
  | _ => none }
def ratchetAnyRow : OpenClaim := { program := "ytpkllkbmoodniaagreat", sum := "095674868e619215a10387808be0b25e54e155235514a1b474bd750ab018f3fc", func := "missive/missivelaw18.RatchetAny", spec := "ratchetAny", inPlace := ["math/bits.Add64"], unfollowed := true, recurses := true, apart := false }
def RatchetAnySaid : Prop := ratchetAnyRow.holds Tryz.pinned (OpenSpec.ofChange ratchetAnySpec)

/-- ITS FALSE NEIGHBOUR: 'it returns false'. Refute it at one input. -/
def ratchetAnyWrong : ChangeSpec := { name := "ratchetAny", fn := fun _ => fun
  | [d1, d2, d3, d4, d5] => { results := [.lit (.bool false)], args := [d1, d2, d3, d4, d5] }
  | _ => none }
def RatchetAnyWrongFalsely : Prop := ratchetAnyRow.holds Tryz.pinned (OpenSpec.ofChange ratchetAnyWrong)

/-- 'missivelaw18.RatchetUnpacks': WHATEVER THE INPUT: true; the input reads as it did. -/
def ratchetUnpacksSpec : ChangeSpec := { name := "ratchetUnpacks", fn := fun _ => fun
  | [d] => { results := [.lit (.bool true)], args := [d] }
  | _ => none }
def ratchetUnpacksRow : OpenClaim := { program := "ytpkllkbmoodniaagreat", sum := "095674868e619215a10387808be0b25e54e155235514a1b474bd750ab018f3fc", func := "missive/missivelaw18.RatchetUnpacks", spec := "ratchetUnpacks", inPlace := ["math/bits.Add64"], unfollowed := true, recurses := true, apart := false }
def RatchetUnpacksSaid : Prop := ratchetUnpacksRow.holds Tryz.pinned (OpenSpec.ofChange ratchetUnpacksSpec)

/-- ITS FALSE NEIGHBOUR: 'it returns false'. Refute it at one input. -/
def ratchetUnpacksWrong : ChangeSpec := { name := "ratchetUnpacks", fn := fun _ => fun
  | [d] => { results := [.lit (.bool false)], args := [d] }
  | _ => none }
def RatchetUnpacksWrongFalsely : Prop := ratchetUnpacksRow.holds Tryz.pinned (OpenSpec.ofChange ratchetUnpacksWrong)

/- THE SECOND FORM. 'bulk': how many values and letters a reading holds, each counted each time it is reached (what is shared counts as often as it is met; a slice's spare places count too). A statement '..UptoSaid' is the law's where the arguments, and the package variables that the reading takes, are together of bulk at most 1048576: NARROWER than '..Said'. Prove '..Said' where nothing that the law and all that it calls make is longer than what came in: it says more and counts as full. Else prove '..UptoSaid'. A law counts once. -/
mutual
def uptoBulk {H : Type} : DataW H → Nat
  | .lit (.string bytes) => bytes.length + 1
  | .lit _ => 1
  | .nil => 1
  | .ptr d => uptoBulk d + 1
  | .slice elems spare => uptoBulkAll elems + uptoBulkAll spare + 1
  | .agg parts => uptoBulkAll parts + 1
  | .iface _ d => uptoBulk d + 1
  | .map entries => uptoBulkEntries entries + 1
  | .held _ => 1
def uptoBulkAll {H : Type} : List (DataW H) → Nat
  | [] => 0
  | d :: r => uptoBulk d + uptoBulkAll r
def uptoBulkEntries {H : Type} : List (Lit × DataW H) → Nat
  | [] => 0
  | x :: r => uptoBulkEntry x + uptoBulkEntries r
def uptoBulkEntry {H : Type} : Lit × DataW H → Nat
  | (.string bytes, d) => bytes.length + uptoBulk d + 1
  | (_, d) => uptoBulk d + 1
 end
def uptoSmall : (H : Type) → List (DataW H) → Bool := fun _ ds => decide (uptoBulkAll ds ≤ 1048576)
def OpenSpec.upto (s : _root_.Go.ChangeSpec) : _root_.Go.OpenSpec := { _root_.Go.OpenSpec.ofChange s with cond := some uptoSmall }

/-- 'missivelaw18.RatchetPlays', WHERE WHAT IT READS IS OF BULK AT MOST 1048576: true; the input reads as it did. -/
def ratchetPlaysUptoRow : OpenClaim := { program := "ytpkllkbmoodniaagreat", sum := "095674868e619215a10387808be0b25e54e155235514a1b474bd750ab018f3fc", func := "missive/missivelaw18.RatchetPlays", spec := "ratchetPlays", inPlace := ["math/bits.Add64"], unfollowed := true, recurses := true, apart := false, narrowed := true }
def RatchetPlaysUptoSaid : Prop := ratchetPlaysUptoRow.holds Tryz.pinned (OpenSpec.upto ratchetPlaysSpec)

/-- 'missivelaw18.RatchetAny', WHERE WHAT IT READS IS OF BULK AT MOST 1048576: true; the input reads as it did. -/
def ratchetAnyUptoRow : OpenClaim := { program := "ytpkllkbmoodniaagreat", sum := "095674868e619215a10387808be0b25e54e155235514a1b474bd750ab018f3fc", func := "missive/missivelaw18.RatchetAny", spec := "ratchetAny", inPlace := ["math/bits.Add64"], unfollowed := true, recurses := true, apart := false, narrowed := true }
def RatchetAnyUptoSaid : Prop := ratchetAnyUptoRow.holds Tryz.pinned (OpenSpec.upto ratchetAnySpec)

/-- 'missivelaw18.RatchetUnpacks', WHERE WHAT IT READS IS OF BULK AT MOST 1048576: true; the input reads as it did. -/
def ratchetUnpacksUptoRow : OpenClaim := { program := "ytpkllkbmoodniaagreat", sum := "095674868e619215a10387808be0b25e54e155235514a1b474bd750ab018f3fc", func := "missive/missivelaw18.RatchetUnpacks", spec := "ratchetUnpacks", inPlace := ["math/bits.Add64"], unfollowed := true, recurses := true, apart := false, narrowed := true }
def RatchetUnpacksUptoSaid : Prop := ratchetUnpacksUptoRow.holds Tryz.pinned (OpenSpec.upto ratchetUnpacksSpec)

end Rows
end Go.Proofs.YtpkllkbmoodniaaGreat
