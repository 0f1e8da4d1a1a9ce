/- What the functions of the program compute. No condition. -/
import Derived.Test.YtpkllkbmoodniaaGreatHwRa8ToRy2
set_option linter.unusedSimpArgs false
set_option linter.unusedVariables false
namespace Go.Proofs.YtpkllkbmoodniaaGreat
open Go Go.Sx
theorem tuK_length (T:List Te) (x:Se):(tuK T x).length = 32:=kyB_length _
theorem tuR_length (T:List Te) (x:Se):(tuR T x).length = 32:=kyB_length _
theorem tuT_valid {T:List Te} (hTv:∀ y ∈ T,Valid y.1 y.2) {x:Se} (hm:x.mine.length = 32) (ht:x.th.length = 32):∀ y ∈ tuT T x,Valid y.1 y.2:=
 roT_valid (tuA_info hTv hm ht).1 _ _
theorem tuT_len {T:List Te} (hTv:∀ y ∈ T,Valid y.1 y.2) {x:Se} (hm:x.mine.length = 32) (ht:x.th.length = 32):(tuT T x).length ≤ T.length + 3:=by
 have h1:=(tuA_info hTv hm ht).2
 have h2:=(roT_len (tuA T x).1 x.root (kyB (tuA T x).2)).2
 unfold tuT;omega
theorem z32_length:z32.length = 32:=List.length_replicate
end Go.Proofs.YtpkllkbmoodniaaGreat
