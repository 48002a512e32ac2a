/- The law's run at the first operator's number 3. -/
import Derived.Test.YtaefjijnnbcjbaaGreatDoorT6
namespace Go.Proofs.YtaefjijnnbcjbaaGreatDoor
open Go.AM
theorem run3_0 (A B x y : Value) : run5 A B x y 3 0 = true := by kernel_rfl
theorem run3_1 (A B x y : Value) : run5 A B x y 3 1 = true := by kernel_rfl
theorem run3_2 (A B x y : Value) : run5 A B x y 3 2 = true := by kernel_rfl
theorem run3_3 (A B x y : Value) : run5 A B x y 3 3 = true := by kernel_rfl
theorem run3_4 (A B x y : Value) : run5 A B x y 3 4 = true := by kernel_rfl
theorem run3_5 (A B x y : Value) : run5 A B x y 3 5 = true := by kernel_rfl
theorem run3_6 (A B x y : Value) : run5 A B x y 3 6 = true := by kernel_rfl
theorem run3_7 (A B x y : Value) : run5 A B x y 3 7 = true := by kernel_rfl
theorem run3_8 (A B x y : Value) : run5 A B x y 3 8 = true := by kernel_rfl
end Go.Proofs.YtaefjijnnbcjbaaGreatDoor
