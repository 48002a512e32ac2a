/- The law's run at the first operator's number 6. -/
import Derived.Test.YtaefjijnnbcjbaaGreatDoorT6
namespace Go.Proofs.YtaefjijnnbcjbaaGreatDoor
open Go.AM
theorem run6_0 (A B x y : Value) : run5 A B x y 6 0 = true := by kernel_rfl
theorem run6_1 (A B x y : Value) : run5 A B x y 6 1 = true := by kernel_rfl
theorem run6_2 (A B x y : Value) : run5 A B x y 6 2 = true := by kernel_rfl
theorem run6_3 (A B x y : Value) : run5 A B x y 6 3 = true := by kernel_rfl
theorem run6_4 (A B x y : Value) : run5 A B x y 6 4 = true := by kernel_rfl
theorem run6_5 (A B x y : Value) : run5 A B x y 6 5 = true := by kernel_rfl
theorem run6_6 (A B x y : Value) : run5 A B x y 6 6 = true := by kernel_rfl
theorem run6_7 (A B x y : Value) : run5 A B x y 6 7 = true := by kernel_rfl
theorem run6_8 (A B x y : Value) : run5 A B x y 6 8 = true := by kernel_rfl
end Go.Proofs.YtaefjijnnbcjbaaGreatDoor
