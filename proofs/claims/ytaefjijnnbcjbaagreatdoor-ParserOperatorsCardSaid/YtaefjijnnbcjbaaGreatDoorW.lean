/- The run of 'awake'. -/
import Derived.Test.YtaefjijnnbcjbaaGreatDoorT4
namespace Go.Proofs.YtaefjijnnbcjbaaGreatDoor
open Go.AM
theorem awake_run : isTrue ((recN C intr0 60).call 4 [] false .none st0) = true := by kernel_rfl
end Go.Proofs.YtaefjijnnbcjbaaGreatDoor
