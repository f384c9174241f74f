/- Part 10 of the lemmas: AVVj, AVVk, AVVl. -/
import Derived.Test.YtnbdmjbpgaeacaaGreatDoorC07
import Derived.Test.YtnbdmjbpgaeacaaGreatDoorC08
import Derived.Test.YtnbdmjbpgaeacaaGreatDoorC06
set_option maxRecDepth 100000
set_option maxHeartbeats 8000000
set_option linter.all false
namespace Go.Proofs.AM
open Go Go.Lib Cd
end Go.Proofs.AM
