/-
  Facts of the program, each by evaluation. No condition.
-/
import Derived.Test.YtmggcdegekbncaaGreatDoorEng
import Derived.Test.YtmggcdegekbncaaGreatDoorMod
import Derived.Test.YtmggcdegekbncaaGreatDoorEng1
import Derived.Test.YtmggcdegekbncaaGreatDoorProg
namespace Go.Proofs.YtmggcdegekbncaaGreatDoor
open Go Go.Eng

end Go.Proofs.YtmggcdegekbncaaGreatDoor
