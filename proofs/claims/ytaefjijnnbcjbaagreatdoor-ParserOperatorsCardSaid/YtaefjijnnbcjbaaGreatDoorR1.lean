/- The law's run at the first operator's number 1. -/
import Derived.Test.YtaefjijnnbcjbaaGreatDoorT6
namespace Go.Proofs.YtaefjijnnbcjbaaGreatDoor
open Go.AM
theorem run1_0 (A B x y : Value) : run5 A B x y 1 0 = true := by kernel_rfl
theorem run1_1 (A B x y : Value) : run5 A B x y 1 1 = true := by kernel_rfl
theorem run1_2 (A B x y : Value) : run5 A B x y 1 2 = true := by kernel_rfl
theorem run1_3 (A B x y : Value) : run5 A B x y 1 3 = true := by kernel_rfl
theorem run1_4 (A B x y : Value) : run5 A B x y 1 4 = true := by kernel_rfl
theorem run1_5 (A B x y : Value) : run5 A B x y 1 5 = true := by kernel_rfl
theorem run1_6 (A B x y : Value) : run5 A B x y 1 6 = true := by kernel_rfl
theorem run1_7 (A B x y : Value) : run5 A B x y 1 7 = true := by kernel_rfl
theorem run1_8 (A B x y : Value) : run5 A B x y 1 8 = true := by kernel_rfl
end Go.Proofs.YtaefjijnnbcjbaaGreatDoor
