/- Part 21 of the lemmas: AOn, AOo, AOp. -/
import Derived.Test.YtnbdmjbpgaeacaaGreatDoorC17
import Derived.Test.YtnbdmjbpgaeacaaGreatDoorC16
import Derived.Test.YtnbdmjbpgaeacaaGreatDoorC06
set_option maxRecDepth 100000
set_option maxHeartbeats 8000000
set_option linter.all false
namespace Go.Proofs.AM
open Go Go.Lib Cd
end Go.Proofs.AM
