/-
  DERIVED: THE SHELF's CONTRACTS AT THIS DUMP, IN PLAIN WORDS (tools/lay-plain.mjs out of 'YtipjmpdndokdlaaGreatDoorLayG.lean', which tools/lay-shelf.mjs wrote): THE SAME DECLARATIONS UNDER THE SAME NAMES: 'import', 'namespace', 'open', 'def', 'theorem' AND NOTHING ELSE: no command of the shelf's: FOR A HAND-IN. Each laying: the table of numbers ('.._ren') and one theorem, a field a fact of the dump's own or the kernel's comparison; each contract: ONE APPLICATION.
-/
import Derived.Shelf.Strings.OnBuilder
import Derived.Ground.NamesProg
import Derived.Test.YtipjmpdndokdlaaGreatDoorProg
namespace Go.Proofs
open Go.Shelf
def Tryz.lJoin_ren : Go.Shelf.Ren := ⟨fun | 156 => 236 | 165 => 242 | 166 => 243 | 169 => 245 | 240 => 262 | 241 => 263 | 276 => 270 | 277 => 271 | n => n, fun | 31 => 284 | 9 => 9 | 3 => 3 | 4 => 4 | 0 => 0 | 20 => 20 | 72 => 295 | 76 => 221 | 70 => 293 | 37 => 270 | 75 => 220 | 127 => 315 | 164 => 320 | 5 => 5 | 80 => 297 | n => n, fun | n => n⟩
theorem Tryz.lJoin : Go.Proofs.Lays.n156 Tryz.prog Tryz.lJoin_ren := {
  mixed := by kernel_rfl
  f156 := Tryz.func236.trans (congrArg some (by kernel_rfl))
  f165 := Tryz.func242.trans (congrArg some (by kernel_rfl))
  f166 := Tryz.func243.trans (congrArg some (by kernel_rfl))
  f169 := Tryz.func245.trans (congrArg some (by kernel_rfl))
  f240 := Tryz.func262.trans (congrArg some (by kernel_rfl))
  f241 := Tryz.func263.trans (congrArg some (by kernel_rfl))
  f276 := Tryz.func270.trans (congrArg some (by kernel_rfl))
  f277 := Tryz.func271.trans (congrArg some (by kernel_rfl))
  t0 := Tryz.underlying0
  a0 := Tryz.isAgg0
  z0 := Tryz.sizeOf0
  v0 := Tryz.zeroValue0
  t3 := Tryz.underlying3
  a3 := Tryz.isAgg3
  z3 := Tryz.sizeOf3
  v3 := Tryz.zeroValue3
  t4 := Tryz.underlying4
  a4 := Tryz.isAgg4
  z4 := Tryz.sizeOf4
  v4 := Tryz.zeroValue4
  t9 := Tryz.underlying9
  a9 := Tryz.isAgg9
  z9 := Tryz.sizeOf9
  v9 := Tryz.zeroValue9
  t20 := Tryz.underlying20
  a20 := Tryz.isAgg20
  z20 := Tryz.sizeOf20
  v20 := Tryz.zeroValue20
  t31 := Tryz.underlying284
  a31 := Tryz.isAgg284
  z31 := Tryz.sizeOf284
  v31 := Tryz.zeroValue284
  t37 := Tryz.underlying270
  a37 := Tryz.isAgg270
  z37 := Tryz.sizeOf270
  v37 := Tryz.zeroValue270
  t70 := Tryz.underlying293
  a70 := Tryz.isAgg293
  z70 := Tryz.sizeOf293
  v70 := Tryz.zeroValue293
  t72 := Tryz.underlying295
  a72 := Tryz.isAgg295
  z72 := Tryz.sizeOf295
  v72 := Tryz.zeroValue295
  t75 := Tryz.underlying220
  a75 := Tryz.isAgg220
  z75 := Tryz.sizeOf220
  v75 := Tryz.zeroValue220
  t76 := Tryz.underlying221
  a76 := Tryz.isAgg221
  z76 := Tryz.sizeOf221
  v76 := Tryz.zeroValue221
  t127 := Tryz.underlying315
  a127 := Tryz.isAgg315
  z127 := Tryz.sizeOf315
  v127 := Tryz.zeroValue315
  t164 := Tryz.underlying320
  a164 := Tryz.isAgg320
  z164 := Tryz.sizeOf320
  v164 := Tryz.zeroValue320 }
theorem Tryz.lJoinX : Builder.Extra Tryz.prog Tryz.lJoin_ren := {
  sizeBuilder := by kernel_rfl
  liesBuilder := by kernel_rfl
  t5 := Tryz.underlying5
  a5 := Tryz.isAgg5
  z5 := Tryz.sizeOf5
  v5 := Tryz.zeroValue5
  infoByte := by kernel_rfl
  cellsByte := by kernel_rfl
  sizeByte := by kernel_rfl
  neB5 := by decide }
end Go.Proofs
