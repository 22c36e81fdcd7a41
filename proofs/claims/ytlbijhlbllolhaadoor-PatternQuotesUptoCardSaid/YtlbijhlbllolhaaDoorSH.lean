/-
  The library's contracts of bytes.Buffer at this dump, laid by the kit's tool.
  DERIVED: THE SHELF's CONTRACTS AT THIS DUMP, IN PLAIN WORDS (tools/lay-plain.mjs out of 'YtlbijhlbllolhaaDoorShelf0.lean', which tools/lay-shelf.mjs wrote): THE SAME DECLARATIONS UNDER THE SAME NAMES: 'import', 'namespace', 'open', 'def', 'theorem' AND NOTHING ELSE: no command of the shelf's: FOR A HAND-IN. Each laying: the table of numbers ('.._ren') and one theorem, a field a fact of the dump's own or the kernel's comparison; each contract: ONE APPLICATION.
-/
import Derived.Shelf.Bytes.WriteByteKept
import Derived.Shelf.Bytes.Bytes
import Derived.Test.YtlbijhlbllolhaaDoorProg
namespace Go.Proofs
open Go.Shelf
def Tryd.lays179_ren : Go.Shelf.Ren := ⟨fun | 179 => 10 | 251 => 16 | 252 => 17 | 181 => 30 | 184 => 31 | 290 => 32 | 324 => 34 | n => n, fun | 130 => 54 | 5 => 5 | 75 => 40 | 0 => 0 | 93 => 37 | 91 => 35 | 3 => 3 | 131 => 51 | 4 => 4 | 37 => 22 | 20 => 20 | 80 => 79 | 9 => 9 | n => n, fun | 14 => 0 | n => n⟩
theorem Tryd.lays179 : Go.Proofs.LaysM.n179 Tryd.prog Tryd.lays179_ren := {
  mixed := by kernel_rfl
  f179 := Tryd.func10.trans (congrArg some (by kernel_rfl))
  f181 := Tryd.func30.trans (congrArg some (by kernel_rfl))
  f184 := Tryd.func31.trans (congrArg some (by kernel_rfl))
  f251 := Tryd.func16.trans (congrArg some (by kernel_rfl))
  f252 := Tryd.func17.trans (congrArg some (by kernel_rfl))
  f290 := Tryd.func32.trans (congrArg some (by kernel_rfl))
  f324 := Tryd.func34.trans (congrArg some (by kernel_rfl))
  t0 := Tryd.underlying0
  a0 := Tryd.isAgg0
  z0 := Tryd.sizeOf0
  v0 := Tryd.zeroValue0
  t3 := Tryd.underlying3
  a3 := Tryd.isAgg3
  z3 := Tryd.sizeOf3
  v3 := Tryd.zeroValue3
  t4 := Tryd.underlying4
  a4 := Tryd.isAgg4
  z4 := Tryd.sizeOf4
  v4 := Tryd.zeroValue4
  t5 := Tryd.underlying5
  a5 := Tryd.isAgg5
  z5 := Tryd.sizeOf5
  v5 := Tryd.zeroValue5
  t20 := Tryd.underlying20
  a20 := Tryd.isAgg20
  z20 := Tryd.sizeOf20
  v20 := Tryd.zeroValue20
  t37 := Tryd.underlying22
  a37 := Tryd.isAgg22
  z37 := Tryd.sizeOf22
  v37 := Tryd.zeroValue22
  t75 := Tryd.underlying40
  a75 := Tryd.isAgg40
  z75 := Tryd.sizeOf40
  v75 := Tryd.zeroValue40
  t91 := Tryd.underlying35
  a91 := Tryd.isAgg35
  z91 := Tryd.sizeOf35
  v91 := Tryd.zeroValue35
  t93 := Tryd.underlying37
  a93 := Tryd.isAgg37
  z93 := Tryd.sizeOf37
  v93 := Tryd.zeroValue37
  t130 := Tryd.underlying54
  a130 := Tryd.isAgg54
  z130 := Tryd.sizeOf54
  v130 := Tryd.zeroValue54
  t131 := Tryd.underlying51
  a131 := Tryd.isAgg51
  z131 := Tryd.sizeOf51
  v131 := Tryd.zeroValue51
  g14 := by kernel_rfl
  t9 := Tryd.underlying9
  a9 := Tryd.isAgg9
  z9 := Tryd.sizeOf9
  v9 := Tryd.zeroValue9
  t80 := Tryd.underlying79
  a80 := Tryd.isAgg79
  z80 := Tryd.sizeOf79
  v80 := Tryd.zeroValue79
  i0 := by kernel_rfl
  i3 := by kernel_rfl
  i4 := by kernel_rfl
  i5 := by kernel_rfl
  i9 := by kernel_rfl
  i20 := by kernel_rfl
  i37 := by kernel_rfl
  i75 := by kernel_rfl
  i80 := by kernel_rfl
  i91 := by kernel_rfl
  i93 := by kernel_rfl
  i130 := by kernel_rfl
  i131 := by kernel_rfl
  m14 := by kernel_rfl }
def Tryd.lays183_ren : Go.Shelf.Ren := ⟨fun | 183 => 11 | n => n, fun | 130 => 54 | 37 => 22 | 0 => 0 | 93 => 37 | 3 => 3 | 5 => 5 | 91 => 35 | n => n, fun | n => n⟩
theorem Tryd.lays183 : Go.Proofs.LaysM.n183 Tryd.prog Tryd.lays183_ren := {
  mixed := by kernel_rfl
  f183 := Tryd.func11.trans (congrArg some (by kernel_rfl))
  t0 := Tryd.underlying0
  a0 := Tryd.isAgg0
  z0 := Tryd.sizeOf0
  v0 := Tryd.zeroValue0
  t3 := Tryd.underlying3
  a3 := Tryd.isAgg3
  z3 := Tryd.sizeOf3
  v3 := Tryd.zeroValue3
  t37 := Tryd.underlying22
  a37 := Tryd.isAgg22
  z37 := Tryd.sizeOf22
  v37 := Tryd.zeroValue22
  t93 := Tryd.underlying37
  a93 := Tryd.isAgg37
  z93 := Tryd.sizeOf37
  v93 := Tryd.zeroValue37
  t130 := Tryd.underlying54
  a130 := Tryd.isAgg54
  z130 := Tryd.sizeOf54
  v130 := Tryd.zeroValue54
  t5 := Tryd.underlying5
  a5 := Tryd.isAgg5
  z5 := Tryd.sizeOf5
  v5 := Tryd.zeroValue5
  t91 := Tryd.underlying35
  a91 := Tryd.isAgg35
  z91 := Tryd.sizeOf35
  v91 := Tryd.zeroValue35
  i0 := by kernel_rfl
  i3 := by kernel_rfl
  i5 := by kernel_rfl
  i37 := by kernel_rfl
  i91 := by kernel_rfl
  i93 := by kernel_rfl
  i130 := by kernel_rfl }
end Go.Proofs
