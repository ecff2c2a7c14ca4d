/-
  DERIVED: THE SHELF's CONTRACTS AT THIS DUMP, IN PLAIN WORDS (tools/lay-plain.mjs out of 'YtaakmdjicocjpaaGreatDoorLayG.lean', which tools/lay-shelf.mjs wrote): THE SAME DECLARATIONS UNDER THE SAME NAMES: 'import', 'namespace', 'open', 'def', 'theorem' AND NOTHING ELSE: no command of the shelf's: FOR A HAND-IN. Each laying: the table of numbers ('.._ren') and one theorem, a field a fact of the dump's own or the kernel's comparison; each contract: ONE APPLICATION.
-/
import Derived.Shelf.Strings.OnBuilder
import Derived.Ground.NamesProg
import Derived.Test.YtaakmdjicocjpaaGreatDoorProg
namespace Go.Proofs
open Go.Shelf
def Tryz.lJoin_ren : Go.Shelf.Ren := ⟨fun | 156 => 154 | 165 => 202 | 166 => 203 | 169 => 204 | 240 => 236 | 241 => 237 | 276 => 268 | 277 => 269 | n => n, fun | 31 => 187 | 9 => 9 | 3 => 3 | 4 => 4 | 0 => 0 | 20 => 20 | 72 => 232 | 76 => 212 | 70 => 229 | 37 => 230 | 75 => 164 | 127 => 264 | 164 => 305 | 5 => 5 | 80 => 234 | n => n, fun | n => n⟩
theorem Tryz.lJoin : Go.Proofs.Lays.n156 Tryz.prog Tryz.lJoin_ren := {
  mixed := by kernel_rfl
  f156 := Tryz.func154.trans (congrArg some (by kernel_rfl))
  f165 := Tryz.func202.trans (congrArg some (by kernel_rfl))
  f166 := Tryz.func203.trans (congrArg some (by kernel_rfl))
  f169 := Tryz.func204.trans (congrArg some (by kernel_rfl))
  f240 := Tryz.func236.trans (congrArg some (by kernel_rfl))
  f241 := Tryz.func237.trans (congrArg some (by kernel_rfl))
  f276 := Tryz.func268.trans (congrArg some (by kernel_rfl))
  f277 := Tryz.func269.trans (congrArg some (by kernel_rfl))
  t0 := Tryz.underlying0
  a0 := Tryz.isAgg0
  z0 := Tryz.sizeOf0
  v0 := Tryz.zeroValue0
  t3 := Tryz.underlying3
  a3 := Tryz.isAgg3
  z3 := Tryz.sizeOf3
  v3 := Tryz.zeroValue3
  t4 := Tryz.underlying4
  a4 := Tryz.isAgg4
  z4 := Tryz.sizeOf4
  v4 := Tryz.zeroValue4
  t9 := Tryz.underlying9
  a9 := Tryz.isAgg9
  z9 := Tryz.sizeOf9
  v9 := Tryz.zeroValue9
  t20 := Tryz.underlying20
  a20 := Tryz.isAgg20
  z20 := Tryz.sizeOf20
  v20 := Tryz.zeroValue20
  t31 := Tryz.underlying187
  a31 := Tryz.isAgg187
  z31 := Tryz.sizeOf187
  v31 := Tryz.zeroValue187
  t37 := Tryz.underlying230
  a37 := Tryz.isAgg230
  z37 := Tryz.sizeOf230
  v37 := Tryz.zeroValue230
  t70 := Tryz.underlying229
  a70 := Tryz.isAgg229
  z70 := Tryz.sizeOf229
  v70 := Tryz.zeroValue229
  t72 := Tryz.underlying232
  a72 := Tryz.isAgg232
  z72 := Tryz.sizeOf232
  v72 := Tryz.zeroValue232
  t75 := Tryz.underlying164
  a75 := Tryz.isAgg164
  z75 := Tryz.sizeOf164
  v75 := Tryz.zeroValue164
  t76 := Tryz.underlying212
  a76 := Tryz.isAgg212
  z76 := Tryz.sizeOf212
  v76 := Tryz.zeroValue212
  t127 := Tryz.underlying264
  a127 := Tryz.isAgg264
  z127 := Tryz.sizeOf264
  v127 := Tryz.zeroValue264
  t164 := Tryz.underlying305
  a164 := Tryz.isAgg305
  z164 := Tryz.sizeOf305
  v164 := Tryz.zeroValue305 }
theorem Tryz.lJoinX : Builder.Extra Tryz.prog Tryz.lJoin_ren := {
  sizeBuilder := by kernel_rfl
  liesBuilder := by kernel_rfl
  t5 := Tryz.underlying5
  a5 := Tryz.isAgg5
  z5 := Tryz.sizeOf5
  v5 := Tryz.zeroValue5
  infoByte := by kernel_rfl
  cellsByte := by kernel_rfl
  sizeByte := by kernel_rfl
  neB5 := by decide }
end Go.Proofs
