/-
  DERIVED: THE SHELF's CONTRACTS AT THIS DUMP, IN PLAIN WORDS (tools/lay-plain.mjs out of 'YtoehmpbipbbffaaGreatDoorLayL.lean', which tools/lay-shelf.mjs wrote): THE SAME DECLARATIONS UNDER THE SAME NAMES: 'import', 'namespace', 'open', 'def', 'theorem' AND NOTHING ELSE: no command of the shelf's: FOR A HAND-IN. Each laying: the table of numbers ('.._ren') and one theorem, a field a fact of the dump's own or the kernel's comparison; each contract: ONE APPLICATION.
-/
import Derived.Shelf.SlSortCmp.Whole1
import Derived.Ground.SlsfProg
import Derived.Test.YtoehmpbipbbffaaGreatDoorProg
namespace Go.Proofs
open Go.Shelf
def Tryz.lSortQ_ren : Go.Shelf.Ren := ⟨fun | 6 => 31 | 15 => 61 | 14 => 60 | 28 => 97 | 29 => 98 | 20 => 89 | 21 => 90 | 22 => 91 | 23 => 92 | 24 => 93 | 25 => 94 | 26 => 95 | 27 => 96 | 46 => 129 | 47 => 130 | 48 => 131 | 49 => 132 | 50 => 133 | 57 => 168 | n => n, fun | 22 => 34 | 24 => 32 | 25 => 75 | 3 => 3 | 39 => 59 | 0 => 0 | 53 => 140 | 55 => 142 | 4 => 4 | 46 => 133 | 45 => 132 | 50 => 137 | 5 => 5 | 9 => 9 | 66 => 163 | 70 => 167 | 76 => 199 | 77 => 200 | n => n, fun | n => n⟩
theorem Tryz.lSortQ : Go.Proofs.SlLaysF.n6 Tryz.prog Tryz.lSortQ_ren := {
  mixed := by kernel_rfl
  f6 := ⟨Tryz.f31.name, by decide, Tryz.func31.trans (congrArg some (by kernel_rfl))⟩
  f14 := ⟨Tryz.f60.name, by decide, Tryz.func60.trans (congrArg some (by kernel_rfl))⟩
  f15 := Tryz.func61.trans (congrArg some (by kernel_rfl))
  f20 := ⟨Tryz.f89.name, by decide, Tryz.func89.trans (congrArg some (by kernel_rfl))⟩
  f21 := ⟨Tryz.f90.name, by decide, Tryz.func90.trans (congrArg some (by kernel_rfl))⟩
  f22 := ⟨Tryz.f91.name, by decide, Tryz.func91.trans (congrArg some (by kernel_rfl))⟩
  f23 := ⟨Tryz.f92.name, by decide, Tryz.func92.trans (congrArg some (by kernel_rfl))⟩
  f24 := ⟨Tryz.f93.name, by decide, Tryz.func93.trans (congrArg some (by kernel_rfl))⟩
  f25 := ⟨Tryz.f94.name, by decide, Tryz.func94.trans (congrArg some (by kernel_rfl))⟩
  f26 := ⟨Tryz.f95.name, by decide, Tryz.func95.trans (congrArg some (by kernel_rfl))⟩
  f27 := ⟨Tryz.f96.name, by decide, Tryz.func96.trans (congrArg some (by kernel_rfl))⟩
  f28 := Tryz.func97.trans (congrArg some (by kernel_rfl))
  f29 := Tryz.func98.trans (congrArg some (by kernel_rfl))
  f46 := ⟨Tryz.f129.name, by decide, Tryz.func129.trans (congrArg some (by kernel_rfl))⟩
  f47 := Tryz.func130.trans (congrArg some (by kernel_rfl))
  f48 := Tryz.func131.trans (congrArg some (by kernel_rfl))
  f49 := ⟨Tryz.f132.name, by decide, Tryz.func132.trans (congrArg some (by kernel_rfl))⟩
  f50 := ⟨Tryz.f133.name, by decide, Tryz.func133.trans (congrArg some (by kernel_rfl))⟩
  f57 := ⟨Tryz.f168.name, by decide, Tryz.func168.trans (congrArg some (by kernel_rfl))⟩
  t0 := Tryz.underlying0
  a0 := Tryz.isAgg0
  z0 := Tryz.sizeOf0
  v0 := Tryz.zeroValue0
  t3 := Tryz.underlying3
  a3 := Tryz.isAgg3
  z3 := Tryz.sizeOf3
  v3 := Tryz.zeroValue3
  t4 := Tryz.underlying4
  a4 := Tryz.isAgg4
  z4 := Tryz.sizeOf4
  v4 := Tryz.zeroValue4
  t5 := Tryz.underlying5
  a5 := Tryz.isAgg5
  z5 := Tryz.sizeOf5
  v5 := Tryz.zeroValue5
  t9 := Tryz.underlying9
  a9 := Tryz.isAgg9
  z9 := Tryz.sizeOf9
  v9 := Tryz.zeroValue9
  t22 := Tryz.underlying34
  a22 := Tryz.isAgg34
  z22 := Tryz.sizeOf34
  v22 := Tryz.zeroValue34
  a24 := Tryz.isAgg32
  z24 := Tryz.sizeOf32
  t25 := Tryz.underlying75
  a25 := Tryz.isAgg75
  z25 := Tryz.sizeOf75
  v25 := Tryz.zeroValue75
  t39 := Tryz.underlying59
  a39 := Tryz.isAgg59
  z39 := Tryz.sizeOf59
  v39 := Tryz.zeroValue59
  t45 := Tryz.underlying132
  a45 := Tryz.isAgg132
  z45 := Tryz.sizeOf132
  v45 := Tryz.zeroValue132
  t46 := Tryz.underlying133
  a46 := Tryz.isAgg133
  z46 := Tryz.sizeOf133
  v46 := Tryz.zeroValue133
  t50 := Tryz.underlying137
  a50 := Tryz.isAgg137
  z50 := Tryz.sizeOf137
  v50 := Tryz.zeroValue137
  t53 := Tryz.underlying140
  a53 := Tryz.isAgg140
  z53 := Tryz.sizeOf140
  v53 := Tryz.zeroValue140
  t55 := Tryz.underlying142
  a55 := Tryz.isAgg142
  z55 := Tryz.sizeOf142
  v55 := Tryz.zeroValue142
  t66 := Tryz.underlying163
  a66 := Tryz.isAgg163
  z66 := Tryz.sizeOf163
  v66 := Tryz.zeroValue163
  t70 := Tryz.underlying167
  a70 := Tryz.isAgg167
  z70 := Tryz.sizeOf167
  v70 := Tryz.zeroValue167
  t76 := Tryz.underlying199
  a76 := Tryz.isAgg199
  z76 := Tryz.sizeOf199
  v76 := Tryz.zeroValue199
  t77 := Tryz.underlying200
  a77 := Tryz.isAgg200
  z77 := Tryz.sizeOf200
  v77 := Tryz.zeroValue200 }
end Go.Proofs
