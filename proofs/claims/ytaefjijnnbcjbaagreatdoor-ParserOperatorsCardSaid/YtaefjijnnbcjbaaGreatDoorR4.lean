/- The law's run at the first operator's number 4. -/
import Derived.Test.YtaefjijnnbcjbaaGreatDoorT6
namespace Go.Proofs.YtaefjijnnbcjbaaGreatDoor
open Go.AM
theorem run4_0 (A B x y : Value) : run5 A B x y 4 0 = true := by kernel_rfl
theorem run4_1 (A B x y : Value) : run5 A B x y 4 1 = true := by kernel_rfl
theorem run4_2 (A B x y : Value) : run5 A B x y 4 2 = true := by kernel_rfl
theorem run4_3 (A B x y : Value) : run5 A B x y 4 3 = true := by kernel_rfl
theorem run4_4 (A B x y : Value) : run5 A B x y 4 4 = true := by kernel_rfl
theorem run4_5 (A B x y : Value) : run5 A B x y 4 5 = true := by kernel_rfl
theorem run4_6 (A B x y : Value) : run5 A B x y 4 6 = true := by kernel_rfl
theorem run4_7 (A B x y : Value) : run5 A B x y 4 7 = true := by kernel_rfl
theorem run4_8 (A B x y : Value) : run5 A B x y 4 8 = true := by kernel_rfl
end Go.Proofs.YtaefjijnnbcjbaaGreatDoor
