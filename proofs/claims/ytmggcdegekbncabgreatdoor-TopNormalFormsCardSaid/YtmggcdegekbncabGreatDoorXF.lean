/-
  Facts of the program, each by evaluation. No condition.
-/
import Derived.Test.YtmggcdegekbncabGreatDoorEng
import Derived.Test.YtmggcdegekbncabGreatDoorMod
import Derived.Test.YtmggcdegekbncabGreatDoorEng1
import Derived.Test.YtmggcdegekbncabGreatDoorMod1
import Derived.Test.YtmggcdegekbncabGreatDoorEng2
import Derived.Test.YtmggcdegekbncabGreatDoorProg
namespace Go.Proofs.YtmggcdegekbncabGreatDoor
open Go Go.Eng

end Go.Proofs.YtmggcdegekbncabGreatDoor
