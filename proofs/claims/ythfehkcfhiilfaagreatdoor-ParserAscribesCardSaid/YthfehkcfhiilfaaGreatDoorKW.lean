/- The runs of awake, and of IsPath at one path. -/
import Derived.Test.YthfehkcfhiilfaaGreatDoorKT1
import Derived.KernelRfl
namespace Go.Proofs.YthfehkcfhiilfaaGreatDoor
open Go.AM
theorem awake_run : isTrue ((recN C intrA 60).call 4 [] false .none st0) = true := by kernel_rfl
theorem path_run : isTrue ((recN C intrA 60).call 88 [.string ⟨⟨[109, 47, 118, 49]⟩⟩] false .none st0) = true := by kernel_rfl
end Go.Proofs.YthfehkcfhiilfaaGreatDoor
