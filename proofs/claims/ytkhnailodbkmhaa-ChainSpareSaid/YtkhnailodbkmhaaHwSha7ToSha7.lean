/- What the functions of the program compute. No condition. -/
import Derived.Test.YtkhnailodbkmhaaHwSha6ToSha6
set_option linter.unusedSimpArgs false
set_option linter.unusedVariables false
namespace Go.Proofs.Ytkhnailodbkmhaa
open Go Go.Sx
@[irreducible] def sha256 (b : List UInt8) : List UInt8 := sum32 (blks32 H32 b (b.length / 64)) (b.drop (64 * (b.length / 64))) (0 + UInt64.ofInt (b.length : Int))
theorem sha256_eq (b : List UInt8) : sha256 b = sum32 (blks32 H32 b (b.length / 64)) (b.drop (64 * (b.length / 64))) (0 + UInt64.ofInt (b.length : Int)) := by unfold sha256; rfl
theorem sha256_length (b : List UInt8) : (sha256 b).length = 32 := by rw [sha256_eq]; exact sum32_length _ _ _
end Go.Proofs.Ytkhnailodbkmhaa
