/- The law's run at the first operator's number 5. -/
import Derived.Test.YtaefjijnnbcjbaaGreatDoorT6
namespace Go.Proofs.YtaefjijnnbcjbaaGreatDoor
open Go.AM
theorem run5_0 (A B x y : Value) : run5 A B x y 5 0 = true := by kernel_rfl
theorem run5_1 (A B x y : Value) : run5 A B x y 5 1 = true := by kernel_rfl
theorem run5_2 (A B x y : Value) : run5 A B x y 5 2 = true := by kernel_rfl
theorem run5_3 (A B x y : Value) : run5 A B x y 5 3 = true := by kernel_rfl
theorem run5_4 (A B x y : Value) : run5 A B x y 5 4 = true := by kernel_rfl
theorem run5_5 (A B x y : Value) : run5 A B x y 5 5 = true := by kernel_rfl
theorem run5_6 (A B x y : Value) : run5 A B x y 5 6 = true := by kernel_rfl
theorem run5_7 (A B x y : Value) : run5 A B x y 5 7 = true := by kernel_rfl
theorem run5_8 (A B x y : Value) : run5 A B x y 5 8 = true := by kernel_rfl
end Go.Proofs.YtaefjijnnbcjbaaGreatDoor
