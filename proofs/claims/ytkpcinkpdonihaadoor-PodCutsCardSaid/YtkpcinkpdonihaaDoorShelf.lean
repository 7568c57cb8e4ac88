/-
  DERIVED: THE SHELF's CONTRACTS AT THIS DUMP, IN PLAIN WORDS (tools/lay-plain.mjs out of 'YtkpcinkpdonihaaDoorShelfSrc.lean', which tools/lay-shelf.mjs wrote): THE SAME DECLARATIONS UNDER THE SAME NAMES: 'import', 'namespace', 'open', 'def', 'theorem' AND NOTHING ELSE: no command of the shelf's: FOR A HAND-IN. Each laying: the table of numbers ('.._ren') and one theorem, a field a fact of the dump's own or the kernel's comparison; each contract: ONE APPLICATION.
-/
import Derived.Shelf.SlGeneric
import Derived.Ground.NamesProg
import Derived.Shelf.Strings.SlTrimAscii
import Derived.Test.YtkpcinkpdonihaaDoorProg
namespace Go.Proofs
open Go.Shelf
def Tryd.lays160_ren : Go.Shelf.Ren := ⟨fun | 160 => 18 | 232 => 22 | 231 => 21 | 227 => 23 | 234 => 25 | 233 => 24 | 236 => 27 | 235 => 26 | 228 => 29 | 271 => 32 | 151 => 31 | 197 => 30 | 120 => 35 | 152 => 34 | 260 => 33 | 137 => 36 | 119 => 37 | 224 => 38 | 225 => 39 | 217 => 40 | 266 => 41 | n => n, fun | 9 => 9 | 4 => 4 | 3 => 3 | 5 => 5 | 117 => 57 | 116 => 56 | 0 => 0 | 124 => 60 | 21 => 21 | 105 => 63 | 46 => 47 | 119 => 67 | 139 => 70 | 138 => 69 | n => n, fun | 3 => 0 | 4 => 1 | n => n⟩
theorem Tryd.lays160 : Go.Proofs.Lays.n160 Tryd.prog Tryd.lays160_ren := {
  mixed := by kernel_rfl
  f119 := Tryd.func37.trans (congrArg some (by kernel_rfl))
  f120 := Tryd.func35.trans (congrArg some (by kernel_rfl))
  f137 := Tryd.func36.trans (congrArg some (by kernel_rfl))
  f151 := Tryd.func31.trans (congrArg some (by kernel_rfl))
  f152 := Tryd.func34.trans (congrArg some (by kernel_rfl))
  f160 := Tryd.func18.trans (congrArg some (by kernel_rfl))
  f197 := Tryd.func30.trans (congrArg some (by kernel_rfl))
  f217 := Tryd.func40.trans (congrArg some (by kernel_rfl))
  f224 := Tryd.func38.trans (congrArg some (by kernel_rfl))
  f225 := Tryd.func39.trans (congrArg some (by kernel_rfl))
  f227 := Tryd.func23.trans (congrArg some (by kernel_rfl))
  f228 := Tryd.func29.trans (congrArg some (by kernel_rfl))
  f231 := Tryd.func21.trans (congrArg some (by kernel_rfl))
  f232 := Tryd.func22.trans (congrArg some (by kernel_rfl))
  f233 := Tryd.func24.trans (congrArg some (by kernel_rfl))
  f234 := Tryd.func25.trans (congrArg some (by kernel_rfl))
  f235 := Tryd.func26.trans (congrArg some (by kernel_rfl))
  f236 := Tryd.func27.trans (congrArg some (by kernel_rfl))
  f260 := Tryd.func33.trans (congrArg some (by kernel_rfl))
  f266 := Tryd.func41.trans (congrArg some (by kernel_rfl))
  f271 := Tryd.func32.trans (congrArg some (by kernel_rfl))
  t0 := Tryd.underlying0
  a0 := Tryd.isAgg0
  z0 := Tryd.sizeOf0
  v0 := Tryd.zeroValue0
  t3 := Tryd.underlying3
  a3 := Tryd.isAgg3
  z3 := Tryd.sizeOf3
  v3 := Tryd.zeroValue3
  t4 := Tryd.underlying4
  a4 := Tryd.isAgg4
  z4 := Tryd.sizeOf4
  v4 := Tryd.zeroValue4
  t5 := Tryd.underlying5
  a5 := Tryd.isAgg5
  z5 := Tryd.sizeOf5
  v5 := Tryd.zeroValue5
  t9 := Tryd.underlying9
  a9 := Tryd.isAgg9
  z9 := Tryd.sizeOf9
  v9 := Tryd.zeroValue9
  t21 := Tryd.underlying21
  a21 := Tryd.isAgg21
  z21 := Tryd.sizeOf21
  v21 := Tryd.zeroValue21
  t46 := Tryd.underlying47
  a46 := Tryd.isAgg47
  z46 := Tryd.sizeOf47
  v46 := Tryd.zeroValue47
  t105 := Tryd.underlying63
  a105 := Tryd.isAgg63
  z105 := Tryd.sizeOf63
  v105 := Tryd.zeroValue63
  t116 := Tryd.underlying56
  a116 := Tryd.isAgg56
  z116 := Tryd.sizeOf56
  t117 := Tryd.underlying57
  a117 := Tryd.isAgg57
  z117 := Tryd.sizeOf57
  v117 := Tryd.zeroValue57
  t119 := Tryd.underlying67
  a119 := Tryd.isAgg67
  z119 := Tryd.sizeOf67
  t124 := Tryd.underlying60
  a124 := Tryd.isAgg60
  z124 := Tryd.sizeOf60
  v124 := Tryd.zeroValue60
  t138 := Tryd.underlying69
  a138 := Tryd.isAgg69
  z138 := Tryd.sizeOf69
  v138 := Tryd.zeroValue69
  t139 := Tryd.underlying70
  a139 := Tryd.isAgg70
  z139 := Tryd.sizeOf70
  v139 := Tryd.zeroValue70
  g3 := by kernel_rfl
  g4 := by kernel_rfl }
end Go.Proofs
