/-
  Generic functions of the library at this program's types: laid by the kit's contracts.
-/
import Derived.Shelf.SlicesE.Clone
import Derived.Shelf.SlicesQ.Reverse
import Derived.Test.YtgkikkabmcihhaaGreatDoorProg
namespace Go.Proofs
open Go.Shelf
def Tryz.cloneSz_ren : Go.Shelf.Ren := ⟨fun | 41 => 21 | n => n, fun | 22 => 31 | 23 => 35 | 4 => 4 | n => n, fun | n => n⟩
theorem Tryz.cloneSz : Go.Proofs.SlLaysE0.n41 Tryz.prog Tryz.cloneSz_ren := {
  mixed := by kernel_rfl
  f41 := ⟨Tryz.f21.name, by decide, Tryz.func21.trans (congrArg some (by kernel_rfl))⟩
  t4 := Tryz.underlying4
  a4 := Tryz.isAgg4
  z4 := Tryz.sizeOf4
  v4 := Tryz.zeroValue4
  t22 := Tryz.underlying31
  a22 := Tryz.isAgg31
  z22 := Tryz.sizeOf31
  v22 := Tryz.zeroValue31 }
def Tryz.reverseSz_ren : Go.Shelf.Ren := ⟨fun | 35 => 22 | n => n, fun | 22 => 31 | 23 => 35 | 3 => 3 | 4 => 4 | 0 => 0 | n => n, fun | n => n⟩
theorem Tryz.reverseSz : Go.Proofs.SlLaysE0.n35 Tryz.prog Tryz.reverseSz_ren := {
  mixed := by kernel_rfl
  f35 := ⟨Tryz.f22.name, by decide, Tryz.func22.trans (congrArg some (by kernel_rfl))⟩
  t0 := Tryz.underlying0
  a0 := Tryz.isAgg0
  z0 := Tryz.sizeOf0
  v0 := Tryz.zeroValue0
  t3 := Tryz.underlying3
  a3 := Tryz.isAgg3
  z3 := Tryz.sizeOf3
  v3 := Tryz.zeroValue3
  t4 := Tryz.underlying4
  a4 := Tryz.isAgg4
  z4 := Tryz.sizeOf4
  v4 := Tryz.zeroValue4
  t22 := Tryz.underlying31
  a22 := Tryz.isAgg31
  z22 := Tryz.sizeOf31
  v22 := Tryz.zeroValue31 }
end Go.Proofs
