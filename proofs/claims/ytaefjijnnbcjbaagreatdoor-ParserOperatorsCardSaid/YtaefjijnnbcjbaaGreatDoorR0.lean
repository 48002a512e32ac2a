/- The law's run at the first operator's number 0. -/
import Derived.Test.YtaefjijnnbcjbaaGreatDoorT6
namespace Go.Proofs.YtaefjijnnbcjbaaGreatDoor
open Go.AM
theorem run0_0 (A B x y : Value) : run5 A B x y 0 0 = true := by kernel_rfl
theorem run0_1 (A B x y : Value) : run5 A B x y 0 1 = true := by kernel_rfl
theorem run0_2 (A B x y : Value) : run5 A B x y 0 2 = true := by kernel_rfl
theorem run0_3 (A B x y : Value) : run5 A B x y 0 3 = true := by kernel_rfl
theorem run0_4 (A B x y : Value) : run5 A B x y 0 4 = true := by kernel_rfl
theorem run0_5 (A B x y : Value) : run5 A B x y 0 5 = true := by kernel_rfl
theorem run0_6 (A B x y : Value) : run5 A B x y 0 6 = true := by kernel_rfl
theorem run0_7 (A B x y : Value) : run5 A B x y 0 7 = true := by kernel_rfl
theorem run0_8 (A B x y : Value) : run5 A B x y 0 8 = true := by kernel_rfl
end Go.Proofs.YtaefjijnnbcjbaaGreatDoor
