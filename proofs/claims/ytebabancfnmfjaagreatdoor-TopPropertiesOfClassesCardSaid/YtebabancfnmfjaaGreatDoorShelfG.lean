/-
  DERIVED: THE SHELF's CONTRACTS AT THIS DUMP, IN PLAIN WORDS (tools/lay-plain.mjs out of 'YtebabancfnmfjaaGreatDoorLayG.lean', which tools/lay-shelf.mjs wrote): THE SAME DECLARATIONS UNDER THE SAME NAMES: 'import', 'namespace', 'open', 'def', 'theorem' AND NOTHING ELSE: no command of the shelf's: FOR A HAND-IN. Each laying: the table of numbers ('.._ren') and one theorem, a field a fact of the dump's own or the kernel's comparison; each contract: ONE APPLICATION.
-/
import Derived.Shelf.Strings.OnBuilder
import Derived.Ground.NamesProg
import Derived.Test.YtebabancfnmfjaaGreatDoorProg
namespace Go.Proofs
open Go.Shelf
def Tryz.lJoin_ren : Go.Shelf.Ren := ⟨fun | 156 => 159 | 165 => 216 | 166 => 217 | 169 => 218 | 240 => 275 | 241 => 276 | 276 => 307 | 277 => 308 | n => n, fun | 31 => 206 | 9 => 9 | 3 => 3 | 4 => 4 | 0 => 0 | 20 => 20 | 72 => 254 | 76 => 258 | 70 => 251 | 37 => 252 | 75 => 257 | 127 => 304 | 164 => 332 | 5 => 5 | 80 => 260 | n => n, fun | n => n⟩
theorem Tryz.lJoin : Go.Proofs.Lays.n156 Tryz.prog Tryz.lJoin_ren := {
  mixed := by kernel_rfl
  f156 := Tryz.func159.trans (congrArg some (by kernel_rfl))
  f165 := Tryz.func216.trans (congrArg some (by kernel_rfl))
  f166 := Tryz.func217.trans (congrArg some (by kernel_rfl))
  f169 := Tryz.func218.trans (congrArg some (by kernel_rfl))
  f240 := Tryz.func275.trans (congrArg some (by kernel_rfl))
  f241 := Tryz.func276.trans (congrArg some (by kernel_rfl))
  f276 := Tryz.func307.trans (congrArg some (by kernel_rfl))
  f277 := Tryz.func308.trans (congrArg some (by kernel_rfl))
  t0 := Tryz.underlying0
  a0 := Tryz.isAgg0
  z0 := Tryz.sizeOf0
  v0 := Tryz.zeroValue0
  t3 := Tryz.underlying3
  a3 := Tryz.isAgg3
  z3 := Tryz.sizeOf3
  v3 := Tryz.zeroValue3
  t4 := Tryz.underlying4
  a4 := Tryz.isAgg4
  z4 := Tryz.sizeOf4
  v4 := Tryz.zeroValue4
  t9 := Tryz.underlying9
  a9 := Tryz.isAgg9
  z9 := Tryz.sizeOf9
  v9 := Tryz.zeroValue9
  t20 := Tryz.underlying20
  a20 := Tryz.isAgg20
  z20 := Tryz.sizeOf20
  v20 := Tryz.zeroValue20
  t31 := Tryz.underlying206
  a31 := Tryz.isAgg206
  z31 := Tryz.sizeOf206
  v31 := Tryz.zeroValue206
  t37 := Tryz.underlying252
  a37 := Tryz.isAgg252
  z37 := Tryz.sizeOf252
  v37 := Tryz.zeroValue252
  t70 := Tryz.underlying251
  a70 := Tryz.isAgg251
  z70 := Tryz.sizeOf251
  v70 := Tryz.zeroValue251
  t72 := Tryz.underlying254
  a72 := Tryz.isAgg254
  z72 := Tryz.sizeOf254
  v72 := Tryz.zeroValue254
  t75 := Tryz.underlying257
  a75 := Tryz.isAgg257
  z75 := Tryz.sizeOf257
  v75 := Tryz.zeroValue257
  t76 := Tryz.underlying258
  a76 := Tryz.isAgg258
  z76 := Tryz.sizeOf258
  v76 := Tryz.zeroValue258
  t127 := Tryz.underlying304
  a127 := Tryz.isAgg304
  z127 := Tryz.sizeOf304
  v127 := Tryz.zeroValue304
  t164 := Tryz.underlying332
  a164 := Tryz.isAgg332
  z164 := Tryz.sizeOf332
  v164 := Tryz.zeroValue332 }
theorem Tryz.lJoinX : Builder.Extra Tryz.prog Tryz.lJoin_ren := {
  sizeBuilder := by kernel_rfl
  liesBuilder := by kernel_rfl
  t5 := Tryz.underlying5
  a5 := Tryz.isAgg5
  z5 := Tryz.sizeOf5
  v5 := Tryz.zeroValue5
  infoByte := by kernel_rfl
  cellsByte := by kernel_rfl
  sizeByte := by kernel_rfl
  neB5 := by decide }
end Go.Proofs
