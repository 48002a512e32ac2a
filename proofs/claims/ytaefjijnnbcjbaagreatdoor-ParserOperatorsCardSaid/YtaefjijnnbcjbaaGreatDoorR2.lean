/- The law's run at the first operator's number 2. -/
import Derived.Test.YtaefjijnnbcjbaaGreatDoorT6
namespace Go.Proofs.YtaefjijnnbcjbaaGreatDoor
open Go.AM
theorem run2_0 (A B x y : Value) : run5 A B x y 2 0 = true := by kernel_rfl
theorem run2_1 (A B x y : Value) : run5 A B x y 2 1 = true := by kernel_rfl
theorem run2_2 (A B x y : Value) : run5 A B x y 2 2 = true := by kernel_rfl
theorem run2_3 (A B x y : Value) : run5 A B x y 2 3 = true := by kernel_rfl
theorem run2_4 (A B x y : Value) : run5 A B x y 2 4 = true := by kernel_rfl
theorem run2_5 (A B x y : Value) : run5 A B x y 2 5 = true := by kernel_rfl
theorem run2_6 (A B x y : Value) : run5 A B x y 2 6 = true := by kernel_rfl
theorem run2_7 (A B x y : Value) : run5 A B x y 2 7 = true := by kernel_rfl
theorem run2_8 (A B x y : Value) : run5 A B x y 2 8 = true := by kernel_rfl
end Go.Proofs.YtaefjijnnbcjbaaGreatDoor
