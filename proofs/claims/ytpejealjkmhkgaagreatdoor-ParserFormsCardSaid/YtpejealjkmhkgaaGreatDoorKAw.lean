/- Part of the proof. -/
import Derived.Test.YtpejealjkmhkgaaGreatDoorKAt
import Derived.KernelRfl
set_option linter.all false
set_option maxHeartbeats 16000000
set_option maxRecDepth 100000
namespace Go.Proofs.YtpejealjkmhkgaaGreatDoor
open Go.AM
theorem P4:isTrue ((jN C JC 60).call 7 [] false .none st0)=true:=by kernel_rfl
end Go.Proofs.YtpejealjkmhkgaaGreatDoor
