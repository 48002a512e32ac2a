/- The library's contract for strings.Contains at this program. -/
import Derived.Shelf.Strings.Search3
import Derived.Shelf.LaysM
import Derived.Shelf.Strings.Shaped
import Derived.Test.YtifncjhjnjldmaaGreatDoorProg
namespace Go.Proofs
open Go.Shelf
def Tryz.laysM144_ren : Go.Shelf.Ren := ⟨fun | 144 => 155 | 143 => 189 | 219 => 210 | 217 => 199 | 225 => 223 | 224 => 224 | 267 => 225 | 266 => 216 | 314 => 233 | n => n, fun | 9 => 9 | 4 => 4 | 3 => 3 | 5 => 5 | 46 => 209 | 146 => 228 | 51 => 227 | n => n, fun | 1 => 0 | n => n⟩
theorem Tryz.laysM144 : Go.Proofs.LaysM.n144 Tryz.prog Tryz.laysM144_ren := {
 mixed := by kernel_rfl
 f143 := Tryz.func189.trans (congrArg some (by kernel_rfl))
 f144 := Tryz.func155.trans (congrArg some (by kernel_rfl))
 f217 := Tryz.func199.trans (congrArg some (by kernel_rfl))
 f219 := Tryz.func210.trans (congrArg some (by kernel_rfl))
 f224 := Tryz.func224.trans (congrArg some (by kernel_rfl))
 f225 := Tryz.func223.trans (congrArg some (by kernel_rfl))
 f266 := Tryz.func216.trans (congrArg some (by kernel_rfl))
 f267 := Tryz.func225.trans (congrArg some (by kernel_rfl))
 f314 := Tryz.func233.trans (congrArg some (by kernel_rfl))
 t3 := Tryz.underlying3
 a3 := Tryz.isAgg3
 z3 := Tryz.sizeOf3
 v3 := Tryz.zeroValue3
 t4 := Tryz.underlying4
 a4 := Tryz.isAgg4
 z4 := Tryz.sizeOf4
 v4 := Tryz.zeroValue4
 t5 := Tryz.underlying5
 a5 := Tryz.isAgg5
 z5 := Tryz.sizeOf5
 v5 := Tryz.zeroValue5
 t9 := Tryz.underlying9
 a9 := Tryz.isAgg9
 z9 := Tryz.sizeOf9
 v9 := Tryz.zeroValue9
 t46 := Tryz.underlying209
 a46 := Tryz.isAgg209
 z46 := Tryz.sizeOf209
 v46 := Tryz.zeroValue209
 t51 := Tryz.underlying227
 a51 := Tryz.isAgg227
 z51 := Tryz.sizeOf227
 v51 := Tryz.zeroValue227
 t146 := Tryz.underlying228
 a146 := Tryz.isAgg228
 z146 := Tryz.sizeOf228
 v146 := Tryz.zeroValue228
 g1 := by kernel_rfl
 i3 := by kernel_rfl
 i4 := by kernel_rfl
 i5 := by kernel_rfl
 i9 := by kernel_rfl
 i46 := by kernel_rfl
 i51 := by kernel_rfl
 i146 := by kernel_rfl
 m1 := by kernel_rfl
 s1_3 := fun w h => Go.Proofs.cell_of_shapedOpen_int (zero := #[.int .i64 0]) (t := 3) h (of_decide_eq_true (by kernel_rfl)) (by kernel_rfl) rfl (by kernel_rfl) (by kernel_rfl) Tryz.underlying3 }
end Go.Proofs
