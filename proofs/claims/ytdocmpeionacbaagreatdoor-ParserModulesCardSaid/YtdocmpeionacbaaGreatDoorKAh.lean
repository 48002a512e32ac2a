/- Part of the proof. -/
import Derived.Test.YtdocmpeionacbaaGreatDoorKAe
import Derived.KernelRfl
set_option linter.all false
set_option maxHeartbeats 16000000
set_option maxRecDepth 100000
namespace Go.Proofs.YtdocmpeionacbaaGreatDoor
open Go.AM
def Wi:isTrue ((kY C Pd 60).call 4 [] false .none st0)=true:=by kernel_rfl
end Go.Proofs.YtdocmpeionacbaaGreatDoor
