/- Part of the proof. -/
import Derived.Test.YthlkhjchcjflkaaGreatDoorKAj
import Derived.KernelRfl
set_option linter.all false
set_option maxHeartbeats 16000000
set_option maxRecDepth 100000
namespace Go.Proofs.YthlkhjchcjflkaaGreatDoor
open Go.AM
theorem Mn:isTrue ((jr C GR 60).call 4 [] false .none XR)=true:=by kernel_rfl
end Go.Proofs.YthlkhjchcjflkaaGreatDoor
