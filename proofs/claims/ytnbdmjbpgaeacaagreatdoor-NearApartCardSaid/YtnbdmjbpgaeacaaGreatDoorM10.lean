/- Part 10 of the lemmas: AVVj, AVVk, AVVl. -/
import Derived.Test.YtnbdmjbpgaeacaaGreatDoorM07
import Derived.Test.YtnbdmjbpgaeacaaGreatDoorM08
import Derived.Test.YtnbdmjbpgaeacaaGreatDoorM06
set_option maxRecDepth 100000
set_option maxHeartbeats 8000000
set_option linter.all false
namespace Go.Proofs.AM
open Go Go.Lib Cd
end Go.Proofs.AM
