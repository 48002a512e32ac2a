/- Part of the proof. -/
import Derived.Test.YtpejealjkmhkgaaGreatDoorBAf
import Derived.KernelRfl
set_option linter.all false
set_option maxHeartbeats 16000000
set_option maxRecDepth 100000
namespace Go.Proofs.YtpejealjkmhkgaaGreatDoor
open Go.AM
theorem P4:isTrue ((jN C JC 60).call 7 [] false .none ⟨.nil,1,.nil⟩)=true:=by kernel_rfl
end Go.Proofs.YtpejealjkmhkgaaGreatDoor
