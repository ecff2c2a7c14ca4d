/- The library's contracts at this seat. -/
import Derived.Shelf.SlGeneric
import Derived.Shelf.SlicesE.Index
import Derived.Ground.SlgnProg
import Derived.Test.YtiameffonflhgaaGreatDoorProg
namespace Go.Proofs
open Go.Shelf
def Tryz.lHasI_ren:Go.Shelf.Ren:=⟨fun | 31=>93 | 29=>51 | n=>n,fun | 22=>24 | 23=>3 | 4=>4 | 3=>3 | 0=>0 | n=>n,fun | n=>n⟩
theorem Tryz.lHasI:Go.Proofs.SlLaysE.n31 Tryz.prog Tryz.lHasI_ren:={
 mixed:=by kernel_rfl
 f29:=⟨Tryz.f51.name,by decide,Tryz.func51.trans (congrArg some (by kernel_rfl))⟩
 f31:=⟨Tryz.f93.name,by decide,Tryz.func93.trans (congrArg some (by kernel_rfl))⟩
 t0:=Tryz.underlying0
 a0:=Tryz.isAgg0
 z0:=Tryz.sizeOf0
 v0:=Tryz.zeroValue0
 t3:=Tryz.underlying3
 a3:=Tryz.isAgg3
 z3:=Tryz.sizeOf3
 v3:=Tryz.zeroValue3
 t4:=Tryz.underlying4
 a4:=Tryz.isAgg4
 z4:=Tryz.sizeOf4
 v4:=Tryz.zeroValue4
 t22:=Tryz.underlying24
 a22:=Tryz.isAgg24
 z22:=Tryz.sizeOf24
 v22:=Tryz.zeroValue24
 a23:=Tryz.isAgg3
 z23:=Tryz.sizeOf3 }
end Go.Proofs
