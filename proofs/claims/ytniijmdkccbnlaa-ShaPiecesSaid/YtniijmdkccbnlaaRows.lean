/-
  No cell of these rows narrows 'for every input' (looked for: loops, veiled, ifaces, maps, wideKeys, modest, calm, conditions, laid).
  DERIVED. THE GIVEN ROWS OF THIS SEAT. 8 by the template 'for every input the law returns true; each argument reads behind the call as it read before'; 0 by the template 'total and deterministic' (their statements: YtniijmdkccbnlaaTotals.lean).
  GIVEN WITH THE SEED: the statements are not yours to turn. If you find one false, say at which input.
  Laid BY PROGRAM, IN A SANDBOX (cutbox-rows.mjs): the forced cells as the released guide's own fill.sh prints them over the translation df9cd806881c0d22… (all of the seat's roots in one cut). By AI agents, Wed Nov 11 2026. No macro, syntax, notation, axiom, sorry.
-/
import Derived.Test.YtniijmdkccbnlaaChecked
import GoSem.Claim
import GoSem.ClaimJoined
import GoSem.ClaimMapViews
import Derived.JoinedTies
import Derived.KernelRfl
namespace Go.Proofs.Ytniijmdkccbnlaa
/- THE CELL 'sum', in the pinned program and in every row, IS THE sha256 OF THE DUMP (.gsa) THAT YtniijmdkccbnlaaProg.lean LOADS. Nothing in Lean hashes anything: it is a label: what it is worth is what the hold of that sum in a sandbox is worth. -/
noncomputable def Try.pinned : Pinned := { name := "ytniijmdkccbnlaa", sum := "df9cd806881c0d22a97ff99d9375f53fc710681cb10a20c13312058fcb3018a1", checked := Try.checked }
namespace Rows
def none {H : Type} : Left H := { results := [], args := [] }

/-- 'missivelaw04.MacHmac': WHATEVER THE INPUT: true; the input reads as it did. -/
def macHmacSpec : ChangeSpec := { name := "macHmac", fn := fun _ => fun
  | [d1, d2] => { results := [.lit (.bool true)], args := [d1, d2] }
  | _ => none }
def macHmacRow : OpenClaim := { program := "ytniijmdkccbnlaa", sum := "df9cd806881c0d22a97ff99d9375f53fc710681cb10a20c13312058fcb3018a1", func := "missive/missivelaw04.MacHmac", spec := "macHmac", apart := false }
def MacHmacSaid : Prop := macHmacRow.holds Try.pinned (OpenSpec.ofChange macHmacSpec)

/-- ITS FALSE NEIGHBOUR: 'it returns false'. Refute it at one input. -/
def macHmacWrong : ChangeSpec := { name := "macHmac", fn := fun _ => fun
  | [d1, d2] => { results := [.lit (.bool false)], args := [d1, d2] }
  | _ => none }
def MacHmacWrongFalsely : Prop := macHmacRow.holds Try.pinned (OpenSpec.ofChange macHmacWrong)

/-- 'missivelaw04.MacHkdf': WHATEVER THE INPUT: true; the input reads as it did. -/
def macHkdfSpec : ChangeSpec := { name := "macHkdf", fn := fun _ => fun
  | [d1, d2, d3, d4, d5] => { results := [.lit (.bool true)], args := [d1, d2, d3, d4, d5] }
  | _ => none }
def macHkdfRow : OpenClaim := { program := "ytniijmdkccbnlaa", sum := "df9cd806881c0d22a97ff99d9375f53fc710681cb10a20c13312058fcb3018a1", func := "missive/missivelaw04.MacHkdf", spec := "macHkdf", apart := false }
def MacHkdfSaid : Prop := macHkdfRow.holds Try.pinned (OpenSpec.ofChange macHkdfSpec)

/-- ITS FALSE NEIGHBOUR: 'it returns false'. Refute it at one input. -/
def macHkdfWrong : ChangeSpec := { name := "macHkdf", fn := fun _ => fun
  | [d1, d2, d3, d4, d5] => { results := [.lit (.bool false)], args := [d1, d2, d3, d4, d5] }
  | _ => none }
def MacHkdfWrongFalsely : Prop := macHkdfRow.holds Try.pinned (OpenSpec.ofChange macHkdfWrong)

/-- 'missivelaw04.MacKeys': WHATEVER THE INPUT: true; the input reads as it did. -/
def macKeysSpec : ChangeSpec := { name := "macKeys", fn := fun _ => fun
  | [d1, d2, d3] => { results := [.lit (.bool true)], args := [d1, d2, d3] }
  | _ => none }
def macKeysRow : OpenClaim := { program := "ytniijmdkccbnlaa", sum := "df9cd806881c0d22a97ff99d9375f53fc710681cb10a20c13312058fcb3018a1", func := "missive/missivelaw04.MacKeys", spec := "macKeys", apart := false }
def MacKeysSaid : Prop := macKeysRow.holds Try.pinned (OpenSpec.ofChange macKeysSpec)

/-- ITS FALSE NEIGHBOUR: 'it returns false'. Refute it at one input. -/
def macKeysWrong : ChangeSpec := { name := "macKeys", fn := fun _ => fun
  | [d1, d2, d3] => { results := [.lit (.bool false)], args := [d1, d2, d3] }
  | _ => none }
def MacKeysWrongFalsely : Prop := macKeysRow.holds Try.pinned (OpenSpec.ofChange macKeysWrong)

/-- 'missivelaw04.MacSame': WHATEVER THE INPUT: true; the input reads as it did. -/
def macSameSpec : ChangeSpec := { name := "macSame", fn := fun _ => fun
  | [d1, d2] => { results := [.lit (.bool true)], args := [d1, d2] }
  | _ => none }
def macSameRow : OpenClaim := { program := "ytniijmdkccbnlaa", sum := "df9cd806881c0d22a97ff99d9375f53fc710681cb10a20c13312058fcb3018a1", func := "missive/missivelaw04.MacSame", spec := "macSame", apart := false }
def MacSameSaid : Prop := macSameRow.holds Try.pinned (OpenSpec.ofChange macSameSpec)

/-- ITS FALSE NEIGHBOUR: 'it returns false'. Refute it at one input. -/
def macSameWrong : ChangeSpec := { name := "macSame", fn := fun _ => fun
  | [d1, d2] => { results := [.lit (.bool false)], args := [d1, d2] }
  | _ => none }
def MacSameWrongFalsely : Prop := macSameRow.holds Try.pinned (OpenSpec.ofChange macSameWrong)

/-- 'missivelaw03.ShaShort': WHATEVER THE INPUT: true; the input reads as it did. -/
def shaShortSpec : ChangeSpec := { name := "shaShort", fn := fun _ => fun
  | [d] => { results := [.lit (.bool true)], args := [d] }
  | _ => none }
def shaShortRow : OpenClaim := { program := "ytniijmdkccbnlaa", sum := "df9cd806881c0d22a97ff99d9375f53fc710681cb10a20c13312058fcb3018a1", func := "missive/missivelaw03.ShaShort", spec := "shaShort", apart := false }
def ShaShortSaid : Prop := shaShortRow.holds Try.pinned (OpenSpec.ofChange shaShortSpec)

/-- ITS FALSE NEIGHBOUR: 'it returns false'. Refute it at one input. -/
def shaShortWrong : ChangeSpec := { name := "shaShort", fn := fun _ => fun
  | [d] => { results := [.lit (.bool false)], args := [d] }
  | _ => none }
def ShaShortWrongFalsely : Prop := shaShortRow.holds Try.pinned (OpenSpec.ofChange shaShortWrong)

/-- 'missivelaw03.ShaLong': WHATEVER THE INPUT: true; the input reads as it did. -/
def shaLongSpec : ChangeSpec := { name := "shaLong", fn := fun _ => fun
  | [d] => { results := [.lit (.bool true)], args := [d] }
  | _ => none }
def shaLongRow : OpenClaim := { program := "ytniijmdkccbnlaa", sum := "df9cd806881c0d22a97ff99d9375f53fc710681cb10a20c13312058fcb3018a1", func := "missive/missivelaw03.ShaLong", spec := "shaLong", apart := false }
def ShaLongSaid : Prop := shaLongRow.holds Try.pinned (OpenSpec.ofChange shaLongSpec)

/-- ITS FALSE NEIGHBOUR: 'it returns false'. Refute it at one input. -/
def shaLongWrong : ChangeSpec := { name := "shaLong", fn := fun _ => fun
  | [d] => { results := [.lit (.bool false)], args := [d] }
  | _ => none }
def ShaLongWrongFalsely : Prop := shaLongRow.holds Try.pinned (OpenSpec.ofChange shaLongWrong)

/-- 'missivelaw03.ShaPieces': WHATEVER THE INPUT: true; the input reads as it did. -/
def shaPiecesSpec : ChangeSpec := { name := "shaPieces", fn := fun _ => fun
  | [d] => { results := [.lit (.bool true)], args := [d] }
  | _ => none }
def shaPiecesRow : OpenClaim := { program := "ytniijmdkccbnlaa", sum := "df9cd806881c0d22a97ff99d9375f53fc710681cb10a20c13312058fcb3018a1", func := "missive/missivelaw03.ShaPieces", spec := "shaPieces", apart := false }
def ShaPiecesSaid : Prop := shaPiecesRow.holds Try.pinned (OpenSpec.ofChange shaPiecesSpec)

/-- ITS FALSE NEIGHBOUR: 'it returns false'. Refute it at one input. -/
def shaPiecesWrong : ChangeSpec := { name := "shaPieces", fn := fun _ => fun
  | [d] => { results := [.lit (.bool false)], args := [d] }
  | _ => none }
def ShaPiecesWrongFalsely : Prop := shaPiecesRow.holds Try.pinned (OpenSpec.ofChange shaPiecesWrong)

/-- 'missivelaw03.ShaBlocks': WHATEVER THE INPUT: true; the input reads as it did. -/
def shaBlocksSpec : ChangeSpec := { name := "shaBlocks", fn := fun _ => fun
  | [d1, d2, d3] => { results := [.lit (.bool true)], args := [d1, d2, d3] }
  | _ => none }
def shaBlocksRow : OpenClaim := { program := "ytniijmdkccbnlaa", sum := "df9cd806881c0d22a97ff99d9375f53fc710681cb10a20c13312058fcb3018a1", func := "missive/missivelaw03.ShaBlocks", spec := "shaBlocks", apart := false }
def ShaBlocksSaid : Prop := shaBlocksRow.holds Try.pinned (OpenSpec.ofChange shaBlocksSpec)

/-- ITS FALSE NEIGHBOUR: 'it returns false'. Refute it at one input. -/
def shaBlocksWrong : ChangeSpec := { name := "shaBlocks", fn := fun _ => fun
  | [d1, d2, d3] => { results := [.lit (.bool false)], args := [d1, d2, d3] }
  | _ => none }
def ShaBlocksWrongFalsely : Prop := shaBlocksRow.holds Try.pinned (OpenSpec.ofChange shaBlocksWrong)

/- THE SECOND FORM. 'bulk': how many values and letters a reading holds, each counted each time it is reached (what is shared counts as often as it is met; a slice's spare places count too). A statement '..UptoSaid' is the law's where the arguments, and the package variables that the reading takes, are together of bulk at most 1048576: NARROWER than '..Said'. Prove '..Said' where nothing that the law and all that it calls make is longer than what came in: it says more and counts as full. Else prove '..UptoSaid'. A law counts once. -/
mutual
def uptoBulk {H : Type} : DataW H → Nat
  | .lit (.string bytes) => bytes.length + 1
  | .lit _ => 1
  | .nil => 1
  | .ptr d => uptoBulk d + 1
  | .slice elems spare => uptoBulkAll elems + uptoBulkAll spare + 1
  | .agg parts => uptoBulkAll parts + 1
  | .iface _ d => uptoBulk d + 1
  | .map entries => uptoBulkEntries entries + 1
  | .held _ => 1
def uptoBulkAll {H : Type} : List (DataW H) → Nat
  | [] => 0
  | d :: r => uptoBulk d + uptoBulkAll r
def uptoBulkEntries {H : Type} : List (Lit × DataW H) → Nat
  | [] => 0
  | x :: r => uptoBulkEntry x + uptoBulkEntries r
def uptoBulkEntry {H : Type} : Lit × DataW H → Nat
  | (.string bytes, d) => bytes.length + uptoBulk d + 1
  | (_, d) => uptoBulk d + 1
 end
def uptoSmall : (H : Type) → List (DataW H) → Bool := fun _ ds => decide (uptoBulkAll ds ≤ 1048576)
def OpenSpec.upto (s : _root_.Go.ChangeSpec) : _root_.Go.OpenSpec := { _root_.Go.OpenSpec.ofChange s with cond := some uptoSmall }

/-- 'missivelaw04.MacHmac', WHERE WHAT IT READS IS OF BULK AT MOST 1048576: true; the input reads as it did. -/
def macHmacUptoRow : OpenClaim := { program := "ytniijmdkccbnlaa", sum := "df9cd806881c0d22a97ff99d9375f53fc710681cb10a20c13312058fcb3018a1", func := "missive/missivelaw04.MacHmac", spec := "macHmac", apart := false, narrowed := true }
def MacHmacUptoSaid : Prop := macHmacUptoRow.holds Try.pinned (OpenSpec.upto macHmacSpec)

/-- 'missivelaw04.MacHkdf', WHERE WHAT IT READS IS OF BULK AT MOST 1048576: true; the input reads as it did. -/
def macHkdfUptoRow : OpenClaim := { program := "ytniijmdkccbnlaa", sum := "df9cd806881c0d22a97ff99d9375f53fc710681cb10a20c13312058fcb3018a1", func := "missive/missivelaw04.MacHkdf", spec := "macHkdf", apart := false, narrowed := true }
def MacHkdfUptoSaid : Prop := macHkdfUptoRow.holds Try.pinned (OpenSpec.upto macHkdfSpec)

/-- 'missivelaw04.MacKeys', WHERE WHAT IT READS IS OF BULK AT MOST 1048576: true; the input reads as it did. -/
def macKeysUptoRow : OpenClaim := { program := "ytniijmdkccbnlaa", sum := "df9cd806881c0d22a97ff99d9375f53fc710681cb10a20c13312058fcb3018a1", func := "missive/missivelaw04.MacKeys", spec := "macKeys", apart := false, narrowed := true }
def MacKeysUptoSaid : Prop := macKeysUptoRow.holds Try.pinned (OpenSpec.upto macKeysSpec)

/-- 'missivelaw04.MacSame', WHERE WHAT IT READS IS OF BULK AT MOST 1048576: true; the input reads as it did. -/
def macSameUptoRow : OpenClaim := { program := "ytniijmdkccbnlaa", sum := "df9cd806881c0d22a97ff99d9375f53fc710681cb10a20c13312058fcb3018a1", func := "missive/missivelaw04.MacSame", spec := "macSame", apart := false, narrowed := true }
def MacSameUptoSaid : Prop := macSameUptoRow.holds Try.pinned (OpenSpec.upto macSameSpec)

/-- 'missivelaw03.ShaShort', WHERE WHAT IT READS IS OF BULK AT MOST 1048576: true; the input reads as it did. -/
def shaShortUptoRow : OpenClaim := { program := "ytniijmdkccbnlaa", sum := "df9cd806881c0d22a97ff99d9375f53fc710681cb10a20c13312058fcb3018a1", func := "missive/missivelaw03.ShaShort", spec := "shaShort", apart := false, narrowed := true }
def ShaShortUptoSaid : Prop := shaShortUptoRow.holds Try.pinned (OpenSpec.upto shaShortSpec)

/-- 'missivelaw03.ShaLong', WHERE WHAT IT READS IS OF BULK AT MOST 1048576: true; the input reads as it did. -/
def shaLongUptoRow : OpenClaim := { program := "ytniijmdkccbnlaa", sum := "df9cd806881c0d22a97ff99d9375f53fc710681cb10a20c13312058fcb3018a1", func := "missive/missivelaw03.ShaLong", spec := "shaLong", apart := false, narrowed := true }
def ShaLongUptoSaid : Prop := shaLongUptoRow.holds Try.pinned (OpenSpec.upto shaLongSpec)

/-- 'missivelaw03.ShaPieces', WHERE WHAT IT READS IS OF BULK AT MOST 1048576: true; the input reads as it did. -/
def shaPiecesUptoRow : OpenClaim := { program := "ytniijmdkccbnlaa", sum := "df9cd806881c0d22a97ff99d9375f53fc710681cb10a20c13312058fcb3018a1", func := "missive/missivelaw03.ShaPieces", spec := "shaPieces", apart := false, narrowed := true }
def ShaPiecesUptoSaid : Prop := shaPiecesUptoRow.holds Try.pinned (OpenSpec.upto shaPiecesSpec)

/-- 'missivelaw03.ShaBlocks', WHERE WHAT IT READS IS OF BULK AT MOST 1048576: true; the input reads as it did. -/
def shaBlocksUptoRow : OpenClaim := { program := "ytniijmdkccbnlaa", sum := "df9cd806881c0d22a97ff99d9375f53fc710681cb10a20c13312058fcb3018a1", func := "missive/missivelaw03.ShaBlocks", spec := "shaBlocks", apart := false, narrowed := true }
def ShaBlocksUptoSaid : Prop := shaBlocksUptoRow.holds Try.pinned (OpenSpec.upto shaBlocksSpec)

end Rows
end Go.Proofs.Ytniijmdkccbnlaa
