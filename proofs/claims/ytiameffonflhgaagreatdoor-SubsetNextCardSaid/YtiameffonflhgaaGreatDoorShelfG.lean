/- The library's contracts at this seat. -/
import Derived.Shelf.Strings.OnBuilder
import Derived.Ground.NamesProg
import Derived.Test.YtiameffonflhgaaGreatDoorProg
namespace Go.Proofs
open Go.Shelf
def Tryz.lJoin_ren:Go.Shelf.Ren:=⟨fun | 156=>170 | 165=>227 | 166=>228 | 169=>229 | 240=>286 | 241=>287 | 276=>318 | 277=>319 | n=>n,fun | 31=>213 | 9=>9 | 3=>3 | 4=>4 | 0=>0 | 20=>20 | 72=>261 | 76=>265 | 70=>258 | 37=>259 | 75=>264 | 127=>311 | 164=>339 | 5=>5 | 80=>267 | n=>n,fun | n=>n⟩
theorem Tryz.lJoin:Go.Proofs.Lays.n156 Tryz.prog Tryz.lJoin_ren:={
 mixed:=by kernel_rfl
 f156:=Tryz.func170.trans (congrArg some (by kernel_rfl))
 f165:=Tryz.func227.trans (congrArg some (by kernel_rfl))
 f166:=Tryz.func228.trans (congrArg some (by kernel_rfl))
 f169:=Tryz.func229.trans (congrArg some (by kernel_rfl))
 f240:=Tryz.func286.trans (congrArg some (by kernel_rfl))
 f241:=Tryz.func287.trans (congrArg some (by kernel_rfl))
 f276:=Tryz.func318.trans (congrArg some (by kernel_rfl))
 f277:=Tryz.func319.trans (congrArg some (by kernel_rfl))
 t0:=Tryz.underlying0
 a0:=Tryz.isAgg0
 z0:=Tryz.sizeOf0
 v0:=Tryz.zeroValue0
 t3:=Tryz.underlying3
 a3:=Tryz.isAgg3
 z3:=Tryz.sizeOf3
 v3:=Tryz.zeroValue3
 t4:=Tryz.underlying4
 a4:=Tryz.isAgg4
 z4:=Tryz.sizeOf4
 v4:=Tryz.zeroValue4
 t9:=Tryz.underlying9
 a9:=Tryz.isAgg9
 z9:=Tryz.sizeOf9
 v9:=Tryz.zeroValue9
 t20:=Tryz.underlying20
 a20:=Tryz.isAgg20
 z20:=Tryz.sizeOf20
 v20:=Tryz.zeroValue20
 t31:=Tryz.underlying213
 a31:=Tryz.isAgg213
 z31:=Tryz.sizeOf213
 v31:=Tryz.zeroValue213
 t37:=Tryz.underlying259
 a37:=Tryz.isAgg259
 z37:=Tryz.sizeOf259
 v37:=Tryz.zeroValue259
 t70:=Tryz.underlying258
 a70:=Tryz.isAgg258
 z70:=Tryz.sizeOf258
 v70:=Tryz.zeroValue258
 t72:=Tryz.underlying261
 a72:=Tryz.isAgg261
 z72:=Tryz.sizeOf261
 v72:=Tryz.zeroValue261
 t75:=Tryz.underlying264
 a75:=Tryz.isAgg264
 z75:=Tryz.sizeOf264
 v75:=Tryz.zeroValue264
 t76:=Tryz.underlying265
 a76:=Tryz.isAgg265
 z76:=Tryz.sizeOf265
 v76:=Tryz.zeroValue265
 t127:=Tryz.underlying311
 a127:=Tryz.isAgg311
 z127:=Tryz.sizeOf311
 v127:=Tryz.zeroValue311
 t164:=Tryz.underlying339
 a164:=Tryz.isAgg339
 z164:=Tryz.sizeOf339
 v164:=Tryz.zeroValue339 }
theorem Tryz.lJoinX:Builder.Extra Tryz.prog Tryz.lJoin_ren:={
 sizeBuilder:=by kernel_rfl
 liesBuilder:=by kernel_rfl
 t5:=Tryz.underlying5
 a5:=Tryz.isAgg5
 z5:=Tryz.sizeOf5
 v5:=Tryz.zeroValue5
 infoByte:=by kernel_rfl
 cellsByte:=by kernel_rfl
 sizeByte:=by kernel_rfl
 neB5:=by decide }
end Go.Proofs
