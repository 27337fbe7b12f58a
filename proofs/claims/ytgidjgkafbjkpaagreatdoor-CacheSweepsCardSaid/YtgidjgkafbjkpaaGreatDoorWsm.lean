/- maps.Clone at this program's two maps, laid by the kit's tool (lay-plain). -/
import Derived.Shelf.SlMaps.Clone
import Derived.Ground.SlmcProg
import Derived.Test.YtgidjgkafbjkpaaGreatDoorProg
namespace Go.Proofs
open Go.Shelf
def Tryz.cloneE_ren : Go.Shelf.Ren := ⟨fun | 5 => 39 | 7 => 61 | n => n, fun | 23 => 65 | 25 => 30 | 3 => 70 | 4 => 4 | 20 => 20 | n => n, fun | n => n⟩
theorem Tryz.cloneE : Go.Proofs.SlLaysW.n5 Tryz.prog Tryz.cloneE_ren := {
  mixed := by kernel_rfl
  f5 := ⟨Tryz.f39.name, by decide, Tryz.func39.trans (congrArg some (by kernel_rfl))⟩
  f7 := Tryz.func61.trans (congrArg some (by kernel_rfl))
  t4 := Tryz.underlying4
  a4 := Tryz.isAgg4
  z4 := Tryz.sizeOf4
  v4 := Tryz.zeroValue4
  t20 := Tryz.underlying20
  a20 := Tryz.isAgg20
  z20 := Tryz.sizeOf20
  v20 := Tryz.zeroValue20
  t23 := Tryz.underlying65
  a23 := Tryz.isAgg65
  z23 := Tryz.sizeOf65
  v23 := Tryz.zeroValue65 }
def Tryz.cloneR_ren : Go.Shelf.Ren := ⟨fun | 5 => 40 | 7 => 61 | n => n, fun | 23 => 66 | 25 => 30 | 3 => 77 | 4 => 4 | 20 => 20 | n => n, fun | n => n⟩
theorem Tryz.cloneR : Go.Proofs.SlLaysW.n5 Tryz.prog Tryz.cloneR_ren := {
  mixed := by kernel_rfl
  f5 := ⟨Tryz.f40.name, by decide, Tryz.func40.trans (congrArg some (by kernel_rfl))⟩
  f7 := Tryz.func61.trans (congrArg some (by kernel_rfl))
  t4 := Tryz.underlying4
  a4 := Tryz.isAgg4
  z4 := Tryz.sizeOf4
  v4 := Tryz.zeroValue4
  t20 := Tryz.underlying20
  a20 := Tryz.isAgg20
  z20 := Tryz.sizeOf20
  v20 := Tryz.zeroValue20
  t23 := Tryz.underlying66
  a23 := Tryz.isAgg66
  z23 := Tryz.sizeOf66
  v23 := Tryz.zeroValue66 }
end Go.Proofs
