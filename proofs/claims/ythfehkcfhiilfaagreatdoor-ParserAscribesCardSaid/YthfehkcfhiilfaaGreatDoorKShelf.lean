/- The library's contract for strings.Contains at this program. -/
import Derived.Shelf.Strings.Search3
import Derived.Shelf.LaysM
import Derived.Shelf.Strings.Shaped
import Derived.Test.YthfehkcfhiilfaaGreatDoorProg
namespace Go.Proofs
open Go.Shelf
def Tryz.laysM144_ren : Go.Shelf.Ren := ⟨fun | 144 => 118 | 143 => 149 | 219 => 168 | 217 => 159 | 225 => 178 | 224 => 179 | 267 => 180 | 266 => 174 | 314 => 188 | n => n, fun | 9 => 9 | 4 => 4 | 3 => 3 | 5 => 5 | 46 => 184 | 146 => 201 | 51 => 200 | n => n, fun | 1 => 0 | n => n⟩
theorem Tryz.laysM144 : Go.Proofs.LaysM.n144 Tryz.prog Tryz.laysM144_ren := {
 mixed := by kernel_rfl
 f143 := Tryz.func149.trans (congrArg some (by kernel_rfl))
 f144 := Tryz.func118.trans (congrArg some (by kernel_rfl))
 f217 := Tryz.func159.trans (congrArg some (by kernel_rfl))
 f219 := Tryz.func168.trans (congrArg some (by kernel_rfl))
 f224 := Tryz.func179.trans (congrArg some (by kernel_rfl))
 f225 := Tryz.func178.trans (congrArg some (by kernel_rfl))
 f266 := Tryz.func174.trans (congrArg some (by kernel_rfl))
 f267 := Tryz.func180.trans (congrArg some (by kernel_rfl))
 f314 := Tryz.func188.trans (congrArg some (by kernel_rfl))
 t3 := Tryz.underlying3
 a3 := Tryz.isAgg3
 z3 := Tryz.sizeOf3
 v3 := Tryz.zeroValue3
 t4 := Tryz.underlying4
 a4 := Tryz.isAgg4
 z4 := Tryz.sizeOf4
 v4 := Tryz.zeroValue4
 t5 := Tryz.underlying5
 a5 := Tryz.isAgg5
 z5 := Tryz.sizeOf5
 v5 := Tryz.zeroValue5
 t9 := Tryz.underlying9
 a9 := Tryz.isAgg9
 z9 := Tryz.sizeOf9
 v9 := Tryz.zeroValue9
 t46 := Tryz.underlying184
 a46 := Tryz.isAgg184
 z46 := Tryz.sizeOf184
 v46 := Tryz.zeroValue184
 t51 := Tryz.underlying200
 a51 := Tryz.isAgg200
 z51 := Tryz.sizeOf200
 v51 := Tryz.zeroValue200
 t146 := Tryz.underlying201
 a146 := Tryz.isAgg201
 z146 := Tryz.sizeOf201
 v146 := Tryz.zeroValue201
 g1 := by kernel_rfl
 i3 := by kernel_rfl
 i4 := by kernel_rfl
 i5 := by kernel_rfl
 i9 := by kernel_rfl
 i46 := by kernel_rfl
 i51 := by kernel_rfl
 i146 := by kernel_rfl
 m1 := by kernel_rfl
 s1_3 := fun w h => Go.Proofs.cell_of_shapedOpen_int (zero := #[.int .i64 0]) (t := 3) h (of_decide_eq_true (by kernel_rfl)) (by kernel_rfl) rfl (by kernel_rfl) (by kernel_rfl) Tryz.underlying3 }
end Go.Proofs
