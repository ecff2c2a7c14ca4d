/-
  DERIVED: THE SHELF's CONTRACTS AT THIS DUMP, IN PLAIN WORDS (tools/lay-plain.mjs out of 'YtipkdebkdnbieaaGreatDoorLayM.lean', which tools/lay-shelf.mjs wrote): THE SAME DECLARATIONS UNDER THE SAME NAMES: 'import', 'namespace', 'open', 'def', 'theorem' AND NOTHING ELSE: no command of the shelf's: FOR A HAND-IN. Each laying: the table of numbers ('.._ren') and one theorem, a field a fact of the dump's own or the kernel's comparison; each contract: ONE APPLICATION.
-/
import Derived.Shelf.SlGeneric
import Derived.Shelf.Bits.Mul64
import Derived.Shelf.SlicesE.IndexFunc
import Derived.Shelf.SlicesE.Clone
import Derived.Shelf.SlicesE.Equal
import Derived.Ground.SlgnProg
import Derived.Ground.SlgfProg
import Derived.Test.YtipkdebkdnbieaaGreatDoorProg
namespace Go.Proofs
open Go.Shelf
def Tryz.lBitsMul_ren : Go.Shelf.Ren := ⟨fun | 212 => 111 | 263 => 156 | 264 => 157 | n => n, fun | 46 => 152 | 51 => 196 | 146 => 213 | 53 => 181 | 148 => 215 | n => n, fun | n => n⟩
theorem Tryz.lBitsMul : Go.Proofs.Lays.n212 Tryz.prog Tryz.lBitsMul_ren := {
  mixed := by kernel_rfl
  f212 := Tryz.func111.trans (congrArg some (by kernel_rfl))
  f263 := Tryz.func156.trans (congrArg some (by kernel_rfl))
  f264 := Tryz.func157.trans (congrArg some (by kernel_rfl))
  t46 := Tryz.underlying152
  a46 := Tryz.isAgg152
  z46 := Tryz.sizeOf152
  v46 := Tryz.zeroValue152
  t51 := Tryz.underlying196
  a51 := Tryz.isAgg196
  z51 := Tryz.sizeOf196
  v51 := Tryz.zeroValue196
  t53 := Tryz.underlying181
  a53 := Tryz.isAgg181
  z53 := Tryz.sizeOf181
  v53 := Tryz.zeroValue181
  t146 := Tryz.underlying213
  a146 := Tryz.isAgg213
  z146 := Tryz.sizeOf213
  v146 := Tryz.zeroValue213
  t148 := Tryz.underlying215
  a148 := Tryz.isAgg215
  z148 := Tryz.sizeOf215
  v148 := Tryz.zeroValue215 }
def Tryz.lIndexR_ren : Go.Shelf.Ren := ⟨fun | 6 => 87 | n => n, fun | 22 => 33 | 23 => 3 | 25 => 93 | 3 => 3 | 0 => 0 | 4 => 4 | n => n, fun | n => n⟩
theorem Tryz.lIndexR : Go.Proofs.SlLaysH.n6 Tryz.prog Tryz.lIndexR_ren := {
  mixed := by kernel_rfl
  f6 := ⟨Tryz.f87.name, by decide, Tryz.func87.trans (congrArg some (by kernel_rfl))⟩
  t0 := Tryz.underlying0
  a0 := Tryz.isAgg0
  z0 := Tryz.sizeOf0
  v0 := Tryz.zeroValue0
  t3 := Tryz.underlying3
  a3 := Tryz.isAgg3
  z3 := Tryz.sizeOf3
  v3 := Tryz.zeroValue3
  t4 := Tryz.underlying4
  a4 := Tryz.isAgg4
  z4 := Tryz.sizeOf4
  v4 := Tryz.zeroValue4
  t22 := Tryz.underlying33
  a22 := Tryz.isAgg33
  z22 := Tryz.sizeOf33
  v22 := Tryz.zeroValue33
  a23 := Tryz.isAgg3
  z23 := Tryz.sizeOf3
  t25 := Tryz.underlying93
  a25 := Tryz.isAgg93
  z25 := Tryz.sizeOf93
  v25 := Tryz.zeroValue93 }
def Tryz.lIndexS_ren : Go.Shelf.Ren := ⟨fun | 6 => 112 | n => n, fun | 22 => 129 | 23 => 100 | 25 => 165 | 3 => 3 | 0 => 0 | 4 => 4 | n => n, fun | n => n⟩
theorem Tryz.lIndexS : Go.Proofs.SlLaysH.n6 Tryz.prog Tryz.lIndexS_ren := {
  mixed := by kernel_rfl
  f6 := ⟨Tryz.f112.name, by decide, Tryz.func112.trans (congrArg some (by kernel_rfl))⟩
  t0 := Tryz.underlying0
  a0 := Tryz.isAgg0
  z0 := Tryz.sizeOf0
  v0 := Tryz.zeroValue0
  t3 := Tryz.underlying3
  a3 := Tryz.isAgg3
  z3 := Tryz.sizeOf3
  v3 := Tryz.zeroValue3
  t4 := Tryz.underlying4
  a4 := Tryz.isAgg4
  z4 := Tryz.sizeOf4
  v4 := Tryz.zeroValue4
  t22 := Tryz.underlying129
  a22 := Tryz.isAgg129
  z22 := Tryz.sizeOf129
  v22 := Tryz.zeroValue129
  a23 := Tryz.isAgg100
  z23 := Tryz.sizeOf100
  t25 := Tryz.underlying165
  a25 := Tryz.isAgg165
  z25 := Tryz.sizeOf165
  v25 := Tryz.zeroValue165 }
def Tryz.lContainsR_ren : Go.Shelf.Ren := ⟨fun | 8 => 47 | 6 => 87 | n => n, fun | 22 => 33 | 23 => 3 | 25 => 93 | 4 => 4 | 3 => 3 | 0 => 0 | n => n, fun | n => n⟩
theorem Tryz.lContainsR : Go.Proofs.SlLaysH.n8 Tryz.prog Tryz.lContainsR_ren := {
  mixed := by kernel_rfl
  f6 := ⟨Tryz.f87.name, by decide, Tryz.func87.trans (congrArg some (by kernel_rfl))⟩
  f8 := ⟨Tryz.f47.name, by decide, Tryz.func47.trans (congrArg some (by kernel_rfl))⟩
  t0 := Tryz.underlying0
  a0 := Tryz.isAgg0
  z0 := Tryz.sizeOf0
  v0 := Tryz.zeroValue0
  t3 := Tryz.underlying3
  a3 := Tryz.isAgg3
  z3 := Tryz.sizeOf3
  v3 := Tryz.zeroValue3
  t4 := Tryz.underlying4
  a4 := Tryz.isAgg4
  z4 := Tryz.sizeOf4
  v4 := Tryz.zeroValue4
  t22 := Tryz.underlying33
  a22 := Tryz.isAgg33
  z22 := Tryz.sizeOf33
  v22 := Tryz.zeroValue33
  a23 := Tryz.isAgg3
  z23 := Tryz.sizeOf3
  t25 := Tryz.underlying93
  a25 := Tryz.isAgg93
  z25 := Tryz.sizeOf93
  v25 := Tryz.zeroValue93 }
def Tryz.lCloneR_ren : Go.Shelf.Ren := ⟨fun | 41 => 70 | n => n, fun | 22 => 33 | 23 => 3 | 4 => 4 | n => n, fun | n => n⟩
theorem Tryz.lCloneR : Go.Proofs.SlLaysE0.n41 Tryz.prog Tryz.lCloneR_ren := {
  mixed := by kernel_rfl
  f41 := ⟨Tryz.f70.name, by decide, Tryz.func70.trans (congrArg some (by kernel_rfl))⟩
  t4 := Tryz.underlying4
  a4 := Tryz.isAgg4
  z4 := Tryz.sizeOf4
  v4 := Tryz.zeroValue4
  t22 := Tryz.underlying33
  a22 := Tryz.isAgg33
  z22 := Tryz.sizeOf33
  v22 := Tryz.zeroValue33 }
def Tryz.lCloneS_ren : Go.Shelf.Ren := ⟨fun | 41 => 114 | n => n, fun | 22 => 129 | 23 => 100 | 4 => 4 | n => n, fun | n => n⟩
theorem Tryz.lCloneS : Go.Proofs.SlLaysE0.n41 Tryz.prog Tryz.lCloneS_ren := {
  mixed := by kernel_rfl
  f41 := ⟨Tryz.f114.name, by decide, Tryz.func114.trans (congrArg some (by kernel_rfl))⟩
  t4 := Tryz.underlying4
  a4 := Tryz.isAgg4
  z4 := Tryz.sizeOf4
  v4 := Tryz.zeroValue4
  t22 := Tryz.underlying129
  a22 := Tryz.isAgg129
  z22 := Tryz.sizeOf129
  v22 := Tryz.zeroValue129 }
def Tryz.lCloneMx_ren : Go.Shelf.Ren := ⟨fun | 41 => 73 | n => n, fun | 22 => 78 | 23 => 33 | 4 => 4 | n => n, fun | n => n⟩
theorem Tryz.lCloneMx : Go.Proofs.SlLaysE0.n41 Tryz.prog Tryz.lCloneMx_ren := {
  mixed := by kernel_rfl
  f41 := ⟨Tryz.f73.name, by decide, Tryz.func73.trans (congrArg some (by kernel_rfl))⟩
  t4 := Tryz.underlying4
  a4 := Tryz.isAgg4
  z4 := Tryz.sizeOf4
  v4 := Tryz.zeroValue4
  t22 := Tryz.underlying78
  a22 := Tryz.isAgg78
  z22 := Tryz.sizeOf78
  v22 := Tryz.zeroValue78 }
def Tryz.lEqualR_ren : Go.Shelf.Ren := ⟨fun | 33 => 43 | n => n, fun | 22 => 33 | 23 => 3 | 4 => 4 | 3 => 3 | 0 => 0 | n => n, fun | n => n⟩
theorem Tryz.lEqualR : Go.Proofs.SlLaysE.n33 Tryz.prog Tryz.lEqualR_ren := {
  mixed := by kernel_rfl
  f33 := ⟨Tryz.f43.name, by decide, Tryz.func43.trans (congrArg some (by kernel_rfl))⟩
  t0 := Tryz.underlying0
  a0 := Tryz.isAgg0
  z0 := Tryz.sizeOf0
  v0 := Tryz.zeroValue0
  t3 := Tryz.underlying3
  a3 := Tryz.isAgg3
  z3 := Tryz.sizeOf3
  v3 := Tryz.zeroValue3
  t4 := Tryz.underlying4
  a4 := Tryz.isAgg4
  z4 := Tryz.sizeOf4
  v4 := Tryz.zeroValue4
  t22 := Tryz.underlying33
  a22 := Tryz.isAgg33
  z22 := Tryz.sizeOf33
  v22 := Tryz.zeroValue33
  a23 := Tryz.isAgg3
  z23 := Tryz.sizeOf3 }
end Go.Proofs
