/-
  No cell of these rows narrows 'for every input' (looked for: loops, veiled, ifaces, maps, wideKeys, modest, calm, conditions, laid).
  DERIVED. THE GIVEN ROWS OF THIS SEAT. 10 by the template 'for every input the law returns true; each argument reads behind the call as it read before'; 0 by the template 'total and deterministic' (their statements: YtgfbbmcdbohbhaaTotals.lean).
  GIVEN WITH THE SEED: the statements are not yours to turn. If you find one false, say at which input.
  Laid BY PROGRAM, IN A SANDBOX (cutbox-rows.mjs): the forced cells as the released guide's own fill.sh prints them over the translation 507c38e4d3a98a72… (all of the seat's roots in one cut). By AI agents, Wed Nov 11 2026. No macro, syntax, notation, axiom, sorry.
-/
import Derived.Test.YtgfbbmcdbohbhaaChecked
import GoSem.Claim
import GoSem.ClaimJoined
import GoSem.ClaimMapViews
import Derived.JoinedTies
import Derived.KernelRfl
namespace Go.Proofs.Ytgfbbmcdbohbhaa
/- THE CELL 'sum', in the pinned program and in every row, IS THE sha256 OF THE DUMP (.gsa) THAT YtgfbbmcdbohbhaaProg.lean LOADS. Nothing in Lean hashes anything: it is a label: what it is worth is what the hold of that sum in a sandbox is worth. -/
noncomputable def Try.pinned : Pinned := { name := "ytgfbbmcdbohbhaa", sum := "507c38e4d3a98a72732105640e3a7ce8ab7c68c22166a25ceda06d2aaa087cd8", checked := Try.checked }
namespace Rows
def none {H : Type} : Left H := { results := [], args := [] }

/-- 'missivelaw05.AesLocks': WHATEVER THE INPUT: true; the input reads as it did. -/
def aesLocksSpec : ChangeSpec := { name := "aesLocks", fn := fun _ => fun
  | [d1, d2] => { results := [.lit (.bool true)], args := [d1, d2] }
  | _ => none }
def aesLocksRow : OpenClaim := { program := "ytgfbbmcdbohbhaa", sum := "507c38e4d3a98a72732105640e3a7ce8ab7c68c22166a25ceda06d2aaa087cd8", func := "missive/missivelaw05.AesLocks", spec := "aesLocks", apart := false }
def AesLocksSaid : Prop := aesLocksRow.holds Try.pinned (OpenSpec.ofChange aesLocksSpec)

/-- ITS FALSE NEIGHBOUR: 'it returns false'. Refute it at one input. -/
def aesLocksWrong : ChangeSpec := { name := "aesLocks", fn := fun _ => fun
  | [d1, d2] => { results := [.lit (.bool false)], args := [d1, d2] }
  | _ => none }
def AesLocksWrongFalsely : Prop := aesLocksRow.holds Try.pinned (OpenSpec.ofChange aesLocksWrong)

/-- 'missivelaw05.AesBack': WHATEVER THE INPUT: true; the input reads as it did. -/
def aesBackSpec : ChangeSpec := { name := "aesBack", fn := fun _ => fun
  | [d1, d2] => { results := [.lit (.bool true)], args := [d1, d2] }
  | _ => none }
def aesBackRow : OpenClaim := { program := "ytgfbbmcdbohbhaa", sum := "507c38e4d3a98a72732105640e3a7ce8ab7c68c22166a25ceda06d2aaa087cd8", func := "missive/missivelaw05.AesBack", spec := "aesBack", apart := false }
def AesBackSaid : Prop := aesBackRow.holds Try.pinned (OpenSpec.ofChange aesBackSpec)

/-- ITS FALSE NEIGHBOUR: 'it returns false'. Refute it at one input. -/
def aesBackWrong : ChangeSpec := { name := "aesBack", fn := fun _ => fun
  | [d1, d2] => { results := [.lit (.bool false)], args := [d1, d2] }
  | _ => none }
def AesBackWrongFalsely : Prop := aesBackRow.holds Try.pinned (OpenSpec.ofChange aesBackWrong)

/-- 'missivelaw05.AesUnlocks': WHATEVER THE INPUT: true; the input reads as it did. -/
def aesUnlocksSpec : ChangeSpec := { name := "aesUnlocks", fn := fun _ => fun
  | [d1, d2] => { results := [.lit (.bool true)], args := [d1, d2] }
  | _ => none }
def aesUnlocksRow : OpenClaim := { program := "ytgfbbmcdbohbhaa", sum := "507c38e4d3a98a72732105640e3a7ce8ab7c68c22166a25ceda06d2aaa087cd8", func := "missive/missivelaw05.AesUnlocks", spec := "aesUnlocks", apart := false }
def AesUnlocksSaid : Prop := aesUnlocksRow.holds Try.pinned (OpenSpec.ofChange aesUnlocksSpec)

/-- ITS FALSE NEIGHBOUR: 'it returns false'. Refute it at one input. -/
def aesUnlocksWrong : ChangeSpec := { name := "aesUnlocks", fn := fun _ => fun
  | [d1, d2] => { results := [.lit (.bool false)], args := [d1, d2] }
  | _ => none }
def AesUnlocksWrongFalsely : Prop := aesUnlocksRow.holds Try.pinned (OpenSpec.ofChange aesUnlocksWrong)

/-- 'missivelaw05.AesMany': WHATEVER THE INPUT: true; the input reads as it did. -/
def aesManySpec : ChangeSpec := { name := "aesMany", fn := fun _ => fun
  | [d1, d2] => { results := [.lit (.bool true)], args := [d1, d2] }
  | _ => none }
def aesManyRow : OpenClaim := { program := "ytgfbbmcdbohbhaa", sum := "507c38e4d3a98a72732105640e3a7ce8ab7c68c22166a25ceda06d2aaa087cd8", func := "missive/missivelaw05.AesMany", spec := "aesMany", apart := false }
def AesManySaid : Prop := aesManyRow.holds Try.pinned (OpenSpec.ofChange aesManySpec)

/-- ITS FALSE NEIGHBOUR: 'it returns false'. Refute it at one input. -/
def aesManyWrong : ChangeSpec := { name := "aesMany", fn := fun _ => fun
  | [d1, d2] => { results := [.lit (.bool false)], args := [d1, d2] }
  | _ => none }
def AesManyWrongFalsely : Prop := aesManyRow.holds Try.pinned (OpenSpec.ofChange aesManyWrong)

/-- 'missivelaw06.CbcLocks': WHATEVER THE INPUT: true; the input reads as it did. -/
def cbcLocksSpec : ChangeSpec := { name := "cbcLocks", fn := fun _ => fun
  | [d1, d2, d3] => { results := [.lit (.bool true)], args := [d1, d2, d3] }
  | _ => none }
def cbcLocksRow : OpenClaim := { program := "ytgfbbmcdbohbhaa", sum := "507c38e4d3a98a72732105640e3a7ce8ab7c68c22166a25ceda06d2aaa087cd8", func := "missive/missivelaw06.CbcLocks", spec := "cbcLocks", apart := false }
def CbcLocksSaid : Prop := cbcLocksRow.holds Try.pinned (OpenSpec.ofChange cbcLocksSpec)

/-- ITS FALSE NEIGHBOUR: 'it returns false'. Refute it at one input. -/
def cbcLocksWrong : ChangeSpec := { name := "cbcLocks", fn := fun _ => fun
  | [d1, d2, d3] => { results := [.lit (.bool false)], args := [d1, d2, d3] }
  | _ => none }
def CbcLocksWrongFalsely : Prop := cbcLocksRow.holds Try.pinned (OpenSpec.ofChange cbcLocksWrong)

/-- 'missivelaw06.CbcBack': WHATEVER THE INPUT: true; the input reads as it did. -/
def cbcBackSpec : ChangeSpec := { name := "cbcBack", fn := fun _ => fun
  | [d1, d2, d3] => { results := [.lit (.bool true)], args := [d1, d2, d3] }
  | _ => none }
def cbcBackRow : OpenClaim := { program := "ytgfbbmcdbohbhaa", sum := "507c38e4d3a98a72732105640e3a7ce8ab7c68c22166a25ceda06d2aaa087cd8", func := "missive/missivelaw06.CbcBack", spec := "cbcBack", apart := false }
def CbcBackSaid : Prop := cbcBackRow.holds Try.pinned (OpenSpec.ofChange cbcBackSpec)

/-- ITS FALSE NEIGHBOUR: 'it returns false'. Refute it at one input. -/
def cbcBackWrong : ChangeSpec := { name := "cbcBack", fn := fun _ => fun
  | [d1, d2, d3] => { results := [.lit (.bool false)], args := [d1, d2, d3] }
  | _ => none }
def CbcBackWrongFalsely : Prop := cbcBackRow.holds Try.pinned (OpenSpec.ofChange cbcBackWrong)

/-- 'missivelaw06.CbcUnlocks': WHATEVER THE INPUT: true; the input reads as it did. -/
def cbcUnlocksSpec : ChangeSpec := { name := "cbcUnlocks", fn := fun _ => fun
  | [d1, d2, d3] => { results := [.lit (.bool true)], args := [d1, d2, d3] }
  | _ => none }
def cbcUnlocksRow : OpenClaim := { program := "ytgfbbmcdbohbhaa", sum := "507c38e4d3a98a72732105640e3a7ce8ab7c68c22166a25ceda06d2aaa087cd8", func := "missive/missivelaw06.CbcUnlocks", spec := "cbcUnlocks", apart := false }
def CbcUnlocksSaid : Prop := cbcUnlocksRow.holds Try.pinned (OpenSpec.ofChange cbcUnlocksSpec)

/-- ITS FALSE NEIGHBOUR: 'it returns false'. Refute it at one input. -/
def cbcUnlocksWrong : ChangeSpec := { name := "cbcUnlocks", fn := fun _ => fun
  | [d1, d2, d3] => { results := [.lit (.bool false)], args := [d1, d2, d3] }
  | _ => none }
def CbcUnlocksWrongFalsely : Prop := cbcUnlocksRow.holds Try.pinned (OpenSpec.ofChange cbcUnlocksWrong)

/-- 'missivelaw06.CbcCut': WHATEVER THE INPUT: true; the input reads as it did. -/
def cbcCutSpec : ChangeSpec := { name := "cbcCut", fn := fun _ => fun
  | [d1, d2, d3, d4] => { results := [.lit (.bool true)], args := [d1, d2, d3, d4] }
  | _ => none }
def cbcCutRow : OpenClaim := { program := "ytgfbbmcdbohbhaa", sum := "507c38e4d3a98a72732105640e3a7ce8ab7c68c22166a25ceda06d2aaa087cd8", func := "missive/missivelaw06.CbcCut", spec := "cbcCut", apart := false }
def CbcCutSaid : Prop := cbcCutRow.holds Try.pinned (OpenSpec.ofChange cbcCutSpec)

/-- ITS FALSE NEIGHBOUR: 'it returns false'. Refute it at one input. -/
def cbcCutWrong : ChangeSpec := { name := "cbcCut", fn := fun _ => fun
  | [d1, d2, d3, d4] => { results := [.lit (.bool false)], args := [d1, d2, d3, d4] }
  | _ => none }
def CbcCutWrongFalsely : Prop := cbcCutRow.holds Try.pinned (OpenSpec.ofChange cbcCutWrong)

/-- 'missivelaw06.CbcSizes': WHATEVER THE INPUT: true; the input reads as it did. -/
def cbcSizesSpec : ChangeSpec := { name := "cbcSizes", fn := fun _ => fun
  | [d] => { results := [.lit (.bool true)], args := [d] }
  | _ => none }
def cbcSizesRow : OpenClaim := { program := "ytgfbbmcdbohbhaa", sum := "507c38e4d3a98a72732105640e3a7ce8ab7c68c22166a25ceda06d2aaa087cd8", func := "missive/missivelaw06.CbcSizes", spec := "cbcSizes", apart := false }
def CbcSizesSaid : Prop := cbcSizesRow.holds Try.pinned (OpenSpec.ofChange cbcSizesSpec)

/-- ITS FALSE NEIGHBOUR: 'it returns false'. Refute it at one input. -/
def cbcSizesWrong : ChangeSpec := { name := "cbcSizes", fn := fun _ => fun
  | [d] => { results := [.lit (.bool false)], args := [d] }
  | _ => none }
def CbcSizesWrongFalsely : Prop := cbcSizesRow.holds Try.pinned (OpenSpec.ofChange cbcSizesWrong)

/-- 'missivelaw06.CbcBegins': WHATEVER THE INPUT: true; the input reads as it did. -/
def cbcBeginsSpec : ChangeSpec := { name := "cbcBegins", fn := fun _ => fun
  | [d1, d2, d3, d4] => { results := [.lit (.bool true)], args := [d1, d2, d3, d4] }
  | _ => none }
def cbcBeginsRow : OpenClaim := { program := "ytgfbbmcdbohbhaa", sum := "507c38e4d3a98a72732105640e3a7ce8ab7c68c22166a25ceda06d2aaa087cd8", func := "missive/missivelaw06.CbcBegins", spec := "cbcBegins", apart := false }
def CbcBeginsSaid : Prop := cbcBeginsRow.holds Try.pinned (OpenSpec.ofChange cbcBeginsSpec)

/-- ITS FALSE NEIGHBOUR: 'it returns false'. Refute it at one input. -/
def cbcBeginsWrong : ChangeSpec := { name := "cbcBegins", fn := fun _ => fun
  | [d1, d2, d3, d4] => { results := [.lit (.bool false)], args := [d1, d2, d3, d4] }
  | _ => none }
def CbcBeginsWrongFalsely : Prop := cbcBeginsRow.holds Try.pinned (OpenSpec.ofChange cbcBeginsWrong)

/- THE SECOND FORM. 'bulk': how many values and letters a reading holds, each counted each time it is reached (what is shared counts as often as it is met; a slice's spare places count too). A statement '..UptoSaid' is the law's where the arguments, and the package variables that the reading takes, are together of bulk at most 1048576: NARROWER than '..Said'. Prove '..Said' where nothing that the law and all that it calls make is longer than what came in: it says more and counts as full. Else prove '..UptoSaid'. A law counts once. -/
mutual
def uptoBulk {H : Type} : DataW H → Nat
  | .lit (.string bytes) => bytes.length + 1
  | .lit _ => 1
  | .nil => 1
  | .ptr d => uptoBulk d + 1
  | .slice elems spare => uptoBulkAll elems + uptoBulkAll spare + 1
  | .agg parts => uptoBulkAll parts + 1
  | .iface _ d => uptoBulk d + 1
  | .map entries => uptoBulkEntries entries + 1
  | .held _ => 1
def uptoBulkAll {H : Type} : List (DataW H) → Nat
  | [] => 0
  | d :: r => uptoBulk d + uptoBulkAll r
def uptoBulkEntries {H : Type} : List (Lit × DataW H) → Nat
  | [] => 0
  | x :: r => uptoBulkEntry x + uptoBulkEntries r
def uptoBulkEntry {H : Type} : Lit × DataW H → Nat
  | (.string bytes, d) => bytes.length + uptoBulk d + 1
  | (_, d) => uptoBulk d + 1
 end
def uptoSmall : (H : Type) → List (DataW H) → Bool := fun _ ds => decide (uptoBulkAll ds ≤ 1048576)
def OpenSpec.upto (s : _root_.Go.ChangeSpec) : _root_.Go.OpenSpec := { _root_.Go.OpenSpec.ofChange s with cond := some uptoSmall }

/-- 'missivelaw05.AesLocks', WHERE WHAT IT READS IS OF BULK AT MOST 1048576: true; the input reads as it did. -/
def aesLocksUptoRow : OpenClaim := { program := "ytgfbbmcdbohbhaa", sum := "507c38e4d3a98a72732105640e3a7ce8ab7c68c22166a25ceda06d2aaa087cd8", func := "missive/missivelaw05.AesLocks", spec := "aesLocks", apart := false, narrowed := true }
def AesLocksUptoSaid : Prop := aesLocksUptoRow.holds Try.pinned (OpenSpec.upto aesLocksSpec)

/-- 'missivelaw05.AesBack', WHERE WHAT IT READS IS OF BULK AT MOST 1048576: true; the input reads as it did. -/
def aesBackUptoRow : OpenClaim := { program := "ytgfbbmcdbohbhaa", sum := "507c38e4d3a98a72732105640e3a7ce8ab7c68c22166a25ceda06d2aaa087cd8", func := "missive/missivelaw05.AesBack", spec := "aesBack", apart := false, narrowed := true }
def AesBackUptoSaid : Prop := aesBackUptoRow.holds Try.pinned (OpenSpec.upto aesBackSpec)

/-- 'missivelaw05.AesUnlocks', WHERE WHAT IT READS IS OF BULK AT MOST 1048576: true; the input reads as it did. -/
def aesUnlocksUptoRow : OpenClaim := { program := "ytgfbbmcdbohbhaa", sum := "507c38e4d3a98a72732105640e3a7ce8ab7c68c22166a25ceda06d2aaa087cd8", func := "missive/missivelaw05.AesUnlocks", spec := "aesUnlocks", apart := false, narrowed := true }
def AesUnlocksUptoSaid : Prop := aesUnlocksUptoRow.holds Try.pinned (OpenSpec.upto aesUnlocksSpec)

/-- 'missivelaw05.AesMany', WHERE WHAT IT READS IS OF BULK AT MOST 1048576: true; the input reads as it did. -/
def aesManyUptoRow : OpenClaim := { program := "ytgfbbmcdbohbhaa", sum := "507c38e4d3a98a72732105640e3a7ce8ab7c68c22166a25ceda06d2aaa087cd8", func := "missive/missivelaw05.AesMany", spec := "aesMany", apart := false, narrowed := true }
def AesManyUptoSaid : Prop := aesManyUptoRow.holds Try.pinned (OpenSpec.upto aesManySpec)

/-- 'missivelaw06.CbcLocks', WHERE WHAT IT READS IS OF BULK AT MOST 1048576: true; the input reads as it did. -/
def cbcLocksUptoRow : OpenClaim := { program := "ytgfbbmcdbohbhaa", sum := "507c38e4d3a98a72732105640e3a7ce8ab7c68c22166a25ceda06d2aaa087cd8", func := "missive/missivelaw06.CbcLocks", spec := "cbcLocks", apart := false, narrowed := true }
def CbcLocksUptoSaid : Prop := cbcLocksUptoRow.holds Try.pinned (OpenSpec.upto cbcLocksSpec)

/-- 'missivelaw06.CbcBack', WHERE WHAT IT READS IS OF BULK AT MOST 1048576: true; the input reads as it did. -/
def cbcBackUptoRow : OpenClaim := { program := "ytgfbbmcdbohbhaa", sum := "507c38e4d3a98a72732105640e3a7ce8ab7c68c22166a25ceda06d2aaa087cd8", func := "missive/missivelaw06.CbcBack", spec := "cbcBack", apart := false, narrowed := true }
def CbcBackUptoSaid : Prop := cbcBackUptoRow.holds Try.pinned (OpenSpec.upto cbcBackSpec)

/-- 'missivelaw06.CbcUnlocks', WHERE WHAT IT READS IS OF BULK AT MOST 1048576: true; the input reads as it did. -/
def cbcUnlocksUptoRow : OpenClaim := { program := "ytgfbbmcdbohbhaa", sum := "507c38e4d3a98a72732105640e3a7ce8ab7c68c22166a25ceda06d2aaa087cd8", func := "missive/missivelaw06.CbcUnlocks", spec := "cbcUnlocks", apart := false, narrowed := true }
def CbcUnlocksUptoSaid : Prop := cbcUnlocksUptoRow.holds Try.pinned (OpenSpec.upto cbcUnlocksSpec)

/-- 'missivelaw06.CbcCut', WHERE WHAT IT READS IS OF BULK AT MOST 1048576: true; the input reads as it did. -/
def cbcCutUptoRow : OpenClaim := { program := "ytgfbbmcdbohbhaa", sum := "507c38e4d3a98a72732105640e3a7ce8ab7c68c22166a25ceda06d2aaa087cd8", func := "missive/missivelaw06.CbcCut", spec := "cbcCut", apart := false, narrowed := true }
def CbcCutUptoSaid : Prop := cbcCutUptoRow.holds Try.pinned (OpenSpec.upto cbcCutSpec)

/-- 'missivelaw06.CbcSizes', WHERE WHAT IT READS IS OF BULK AT MOST 1048576: true; the input reads as it did. -/
def cbcSizesUptoRow : OpenClaim := { program := "ytgfbbmcdbohbhaa", sum := "507c38e4d3a98a72732105640e3a7ce8ab7c68c22166a25ceda06d2aaa087cd8", func := "missive/missivelaw06.CbcSizes", spec := "cbcSizes", apart := false, narrowed := true }
def CbcSizesUptoSaid : Prop := cbcSizesUptoRow.holds Try.pinned (OpenSpec.upto cbcSizesSpec)

/-- 'missivelaw06.CbcBegins', WHERE WHAT IT READS IS OF BULK AT MOST 1048576: true; the input reads as it did. -/
def cbcBeginsUptoRow : OpenClaim := { program := "ytgfbbmcdbohbhaa", sum := "507c38e4d3a98a72732105640e3a7ce8ab7c68c22166a25ceda06d2aaa087cd8", func := "missive/missivelaw06.CbcBegins", spec := "cbcBegins", apart := false, narrowed := true }
def CbcBeginsUptoSaid : Prop := cbcBeginsUptoRow.holds Try.pinned (OpenSpec.upto cbcBeginsSpec)

end Rows
end Go.Proofs.Ytgfbbmcdbohbhaa
