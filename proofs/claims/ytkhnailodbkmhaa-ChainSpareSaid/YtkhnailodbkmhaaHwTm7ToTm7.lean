/- What the functions of the program compute. No condition. -/
import Derived.Test.YtkhnailodbkmhaaHwTm6ToTm6
set_option linter.unusedSimpArgs false
set_option linter.unusedVariables false
namespace Go.Proofs.Ytkhnailodbkmhaa
open Go Go.Sx
end Go.Proofs.Ytkhnailodbkmhaa
