/- The law's run at the first operator's number 8. -/
import Derived.Test.YtaefjijnnbcjbaaGreatDoorT6
namespace Go.Proofs.YtaefjijnnbcjbaaGreatDoor
open Go.AM
theorem run8_0 (A B x y : Value) : run5 A B x y 8 0 = true := by kernel_rfl
theorem run8_1 (A B x y : Value) : run5 A B x y 8 1 = true := by kernel_rfl
theorem run8_2 (A B x y : Value) : run5 A B x y 8 2 = true := by kernel_rfl
theorem run8_3 (A B x y : Value) : run5 A B x y 8 3 = true := by kernel_rfl
theorem run8_4 (A B x y : Value) : run5 A B x y 8 4 = true := by kernel_rfl
theorem run8_5 (A B x y : Value) : run5 A B x y 8 5 = true := by kernel_rfl
theorem run8_6 (A B x y : Value) : run5 A B x y 8 6 = true := by kernel_rfl
theorem run8_7 (A B x y : Value) : run5 A B x y 8 7 = true := by kernel_rfl
theorem run8_8 (A B x y : Value) : run5 A B x y 8 8 = true := by kernel_rfl
end Go.Proofs.YtaefjijnnbcjbaaGreatDoor
