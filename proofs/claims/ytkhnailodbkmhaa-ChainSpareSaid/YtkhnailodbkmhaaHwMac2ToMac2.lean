/- What the functions of the program compute. No condition. -/
import Derived.Test.YtkhnailodbkmhaaHwMac1ToMac1
set_option linter.unusedSimpArgs false
set_option linter.unusedVariables false
namespace Go.Proofs.Ytkhnailodbkmhaa
open Go Go.Sx
def kbOf (key : List UInt8) : List UInt8 := if 64 < key.length then sha256 key else key
def padK (kb : List UInt8) : List UInt8 := kb ++ List.replicate (64 - kb.length) 0
@[irreducible] def hmac (key text : List UInt8) : List UInt8 :=
  sha256 ((padK (kbOf key)).map (· ^^^ 92) ++ sha256 ((padK (kbOf key)).map (· ^^^ 54) ++ text))
theorem hmac_eq (key text : List UInt8) : hmac key text = sha256 ((padK (kbOf key)).map (· ^^^ 92) ++ sha256 ((padK (kbOf key)).map (· ^^^ 54) ++ text)) := by unfold hmac; rfl
theorem hmac_length (key text : List UInt8) : (hmac key text).length = 32 := by rw [hmac_eq]; exact sha256_length _
end Go.Proofs.Ytkhnailodbkmhaa
