/- The law's run at the first operator's number 7. -/
import Derived.Test.YtaefjijnnbcjbaaGreatDoorT6
namespace Go.Proofs.YtaefjijnnbcjbaaGreatDoor
open Go.AM
theorem run7_0 (A B x y : Value) : run5 A B x y 7 0 = true := by kernel_rfl
theorem run7_1 (A B x y : Value) : run5 A B x y 7 1 = true := by kernel_rfl
theorem run7_2 (A B x y : Value) : run5 A B x y 7 2 = true := by kernel_rfl
theorem run7_3 (A B x y : Value) : run5 A B x y 7 3 = true := by kernel_rfl
theorem run7_4 (A B x y : Value) : run5 A B x y 7 4 = true := by kernel_rfl
theorem run7_5 (A B x y : Value) : run5 A B x y 7 5 = true := by kernel_rfl
theorem run7_6 (A B x y : Value) : run5 A B x y 7 6 = true := by kernel_rfl
theorem run7_7 (A B x y : Value) : run5 A B x y 7 7 = true := by kernel_rfl
theorem run7_8 (A B x y : Value) : run5 A B x y 7 8 = true := by kernel_rfl
end Go.Proofs.YtaefjijnnbcjbaaGreatDoor
