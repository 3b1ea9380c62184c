/-
  What functions of the program compute, each by its walk. Conditions: those that each theorem names.
-/
import Derived.Test.YtamolakhpcofhaaXC8
import Derived.Test.YtamolakhpcofhaaXE4
import Derived.Test.YtamolakhpcofhaaEng1
import Derived.Test.YtamolakhpcofhaaModb
import Derived.Test.YtamolakhpcofhaaEng
set_option linter.unusedSimpArgs false
namespace Go.Proofs.Ytamolakhpcofhaa
open Go Go.Eng Go.Am Go.Sq
open Go.Tl (mayL Wd okW okB bo)

end Go.Proofs.Ytamolakhpcofhaa

