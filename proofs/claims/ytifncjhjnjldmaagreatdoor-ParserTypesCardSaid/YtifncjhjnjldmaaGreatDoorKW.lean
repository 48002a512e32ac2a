/- The run of awake. -/
import Derived.Test.YtifncjhjnjldmaaGreatDoorKT1
import Derived.KernelRfl
namespace Go.Proofs.YtifncjhjnjldmaaGreatDoor
open Go.AM
theorem awake_run : isTrue ((recN C intrA 60).call 4 [] false .none st0) = true := by kernel_rfl
end Go.Proofs.YtifncjhjnjldmaaGreatDoor
