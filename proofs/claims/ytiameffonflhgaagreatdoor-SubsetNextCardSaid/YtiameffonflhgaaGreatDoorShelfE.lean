/- The library's contracts at this seat. -/
import Derived.Shelf.SlGeneric
import Derived.Shelf.SlicesE.Clone
import Derived.Ground.SlgnProg
import Derived.Test.YtiameffonflhgaaGreatDoorProg
namespace Go.Proofs
open Go.Shelf
def Tryz.lCloneQ_ren:Go.Shelf.Ren:=⟨fun | 41=>155 | n=>n,fun | 22=>41 | 23=>65 | 4=>4 | n=>n,fun | n=>n⟩
theorem Tryz.lCloneQ:Go.Proofs.SlLaysE0.n41 Tryz.prog Tryz.lCloneQ_ren:={
 mixed:=by kernel_rfl
 f41:=⟨Tryz.f155.name,by decide,Tryz.func155.trans (congrArg some (by kernel_rfl))⟩
 t4:=Tryz.underlying4
 a4:=Tryz.isAgg4
 z4:=Tryz.sizeOf4
 v4:=Tryz.zeroValue4
 t22:=Tryz.underlying41
 a22:=Tryz.isAgg41
 z22:=Tryz.sizeOf41
 v22:=Tryz.zeroValue41 }
def Tryz.lCloneP_ren:Go.Shelf.Ren:=⟨fun | 41=>44 | n=>n,fun | 22=>25 | 23=>3 | 4=>4 | n=>n,fun | n=>n⟩
theorem Tryz.lCloneP:Go.Proofs.SlLaysE0.n41 Tryz.prog Tryz.lCloneP_ren:={
 mixed:=by kernel_rfl
 f41:=⟨Tryz.f44.name,by decide,Tryz.func44.trans (congrArg some (by kernel_rfl))⟩
 t4:=Tryz.underlying4
 a4:=Tryz.isAgg4
 z4:=Tryz.sizeOf4
 v4:=Tryz.zeroValue4
 t22:=Tryz.underlying25
 a22:=Tryz.isAgg25
 z22:=Tryz.sizeOf25
 v22:=Tryz.zeroValue25 }
end Go.Proofs
