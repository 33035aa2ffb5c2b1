/-
  DERIVED: THE SHELF's CONTRACTS AT THIS DUMP, IN PLAIN WORDS (tools/lay-plain.mjs out of 'TryzSort.lean', which tools/lay-shelf.mjs wrote): THE SAME DECLARATIONS UNDER THE SAME NAMES: 'import', 'namespace', 'open', 'def', 'theorem' AND NOTHING ELSE: no command of the shelf's: FOR A HAND-IN. Each laying: the table of numbers ('.._ren') and one theorem, a field a fact of the dump's own or the kernel's comparison; each contract: ONE APPLICATION.
-/
import Derived.Shelf.SlSortCmp.WholeK
import Derived.Ground.SlsfProg
import Derived.Test.YtaajajngnmaggaaGreatProg
namespace Go.Proofs
open Go.Shelf
def Tryz.laysSort_ren : Go.Shelf.Ren := ⟨fun | 6 => 94 | 15 => 151 | 14 => 150 | 28 => 188 | 29 => 189 | 20 => 180 | 21 => 181 | 22 => 182 | 23 => 183 | 24 => 184 | 25 => 185 | 26 => 186 | 27 => 187 | 46 => 211 | 47 => 212 | 48 => 213 | 49 => 214 | 50 => 215 | 57 => 225 | n => n, fun | 22 => 153 | 24 => 156 | 25 => 160 | 3 => 3 | 39 => 203 | 0 => 0 | 53 => 232 | 55 => 125 | 4 => 4 | 46 => 225 | 45 => 224 | 50 => 229 | 5 => 5 | 9 => 9 | 66 => 246 | 70 => 250 | 76 => 258 | 77 => 259 | n => n, fun | n => n⟩
theorem Tryz.laysSort : Go.Proofs.SlLaysF0.n6 Tryz.prog Tryz.laysSort_ren := {
  mixed := by kernel_rfl
  f6 := ⟨Tryz.f94.name, by decide, Tryz.func94.trans (congrArg some (by kernel_rfl))⟩
  f14 := ⟨Tryz.f150.name, by decide, Tryz.func150.trans (congrArg some (by kernel_rfl))⟩
  f15 := Tryz.func151.trans (congrArg some (by kernel_rfl))
  f20 := ⟨Tryz.f180.name, by decide, Tryz.func180.trans (congrArg some (by kernel_rfl))⟩
  f21 := ⟨Tryz.f181.name, by decide, Tryz.func181.trans (congrArg some (by kernel_rfl))⟩
  f22 := ⟨Tryz.f182.name, by decide, Tryz.func182.trans (congrArg some (by kernel_rfl))⟩
  f23 := ⟨Tryz.f183.name, by decide, Tryz.func183.trans (congrArg some (by kernel_rfl))⟩
  f24 := ⟨Tryz.f184.name, by decide, Tryz.func184.trans (congrArg some (by kernel_rfl))⟩
  f25 := ⟨Tryz.f185.name, by decide, Tryz.func185.trans (congrArg some (by kernel_rfl))⟩
  f26 := ⟨Tryz.f186.name, by decide, Tryz.func186.trans (congrArg some (by kernel_rfl))⟩
  f27 := ⟨Tryz.f187.name, by decide, Tryz.func187.trans (congrArg some (by kernel_rfl))⟩
  f28 := Tryz.func188.trans (congrArg some (by kernel_rfl))
  f29 := Tryz.func189.trans (congrArg some (by kernel_rfl))
  f46 := ⟨Tryz.f211.name, by decide, Tryz.func211.trans (congrArg some (by kernel_rfl))⟩
  f47 := Tryz.func212.trans (congrArg some (by kernel_rfl))
  f48 := Tryz.func213.trans (congrArg some (by kernel_rfl))
  f49 := ⟨Tryz.f214.name, by decide, Tryz.func214.trans (congrArg some (by kernel_rfl))⟩
  f50 := ⟨Tryz.f215.name, by decide, Tryz.func215.trans (congrArg some (by kernel_rfl))⟩
  f57 := ⟨Tryz.f225.name, by decide, Tryz.func225.trans (congrArg some (by kernel_rfl))⟩
  t0 := Tryz.underlying0
  a0 := Tryz.isAgg0
  z0 := Tryz.sizeOf0
  v0 := Tryz.zeroValue0
  t3 := Tryz.underlying3
  a3 := Tryz.isAgg3
  z3 := Tryz.sizeOf3
  v3 := Tryz.zeroValue3
  t4 := Tryz.underlying4
  a4 := Tryz.isAgg4
  z4 := Tryz.sizeOf4
  v4 := Tryz.zeroValue4
  t5 := Tryz.underlying5
  a5 := Tryz.isAgg5
  z5 := Tryz.sizeOf5
  v5 := Tryz.zeroValue5
  t9 := Tryz.underlying9
  a9 := Tryz.isAgg9
  z9 := Tryz.sizeOf9
  v9 := Tryz.zeroValue9
  t22 := Tryz.underlying153
  a22 := Tryz.isAgg153
  z22 := Tryz.sizeOf153
  v22 := Tryz.zeroValue153
  t25 := Tryz.underlying160
  a25 := Tryz.isAgg160
  z25 := Tryz.sizeOf160
  v25 := Tryz.zeroValue160
  t39 := Tryz.underlying203
  a39 := Tryz.isAgg203
  z39 := Tryz.sizeOf203
  v39 := Tryz.zeroValue203
  t45 := Tryz.underlying224
  a45 := Tryz.isAgg224
  z45 := Tryz.sizeOf224
  v45 := Tryz.zeroValue224
  t46 := Tryz.underlying225
  a46 := Tryz.isAgg225
  z46 := Tryz.sizeOf225
  v46 := Tryz.zeroValue225
  t50 := Tryz.underlying229
  a50 := Tryz.isAgg229
  z50 := Tryz.sizeOf229
  v50 := Tryz.zeroValue229
  t53 := Tryz.underlying232
  a53 := Tryz.isAgg232
  z53 := Tryz.sizeOf232
  v53 := Tryz.zeroValue232
  t55 := Tryz.underlying125
  a55 := Tryz.isAgg125
  z55 := Tryz.sizeOf125
  v55 := Tryz.zeroValue125
  t66 := Tryz.underlying246
  a66 := Tryz.isAgg246
  z66 := Tryz.sizeOf246
  v66 := Tryz.zeroValue246
  t70 := Tryz.underlying250
  a70 := Tryz.isAgg250
  z70 := Tryz.sizeOf250
  v70 := Tryz.zeroValue250
  t76 := Tryz.underlying258
  a76 := Tryz.isAgg258
  z76 := Tryz.sizeOf258
  v76 := Tryz.zeroValue258
  t77 := Tryz.underlying259
  a77 := Tryz.isAgg259
  z77 := Tryz.sizeOf259
  v77 := Tryz.zeroValue259 }
end Go.Proofs
