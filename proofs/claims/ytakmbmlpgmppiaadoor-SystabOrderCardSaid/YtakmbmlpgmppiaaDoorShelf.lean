/-
  Contracts of the library at this seat, laid in plain words by the kit's tool (lay-plain). Conditions: none.
-/
import Derived.Shelf.Small.Strs
import Derived.Shelf.Strings.Search1
import Derived.Shelf.Strings.SlTrimAscii
import Derived.Test.YtakmbmlpgmppiaaDoorProg
namespace Go.Proofs
open Go.Shelf
def Tryd.lays137_ren : Go.Shelf.Ren := ⟨fun | 137 => 34 | 217 => 47 | 266 => 54 | n => n, fun | 9 => 9 | 5 => 5 | 3 => 3 | n => n, fun | n => n⟩
theorem Tryd.lays137 : Go.Proofs.Lays.n137 Tryd.prog Tryd.lays137_ren := {
  mixed := by kernel_rfl
  f137 := Tryd.func34.trans (congrArg some (by kernel_rfl))
  f217 := Tryd.func47.trans (congrArg some (by kernel_rfl))
  f266 := Tryd.func54.trans (congrArg some (by kernel_rfl))
  t3 := Tryd.underlying3
  a3 := Tryd.isAgg3
  z3 := Tryd.sizeOf3
  v3 := Tryd.zeroValue3
  t5 := Tryd.underlying5
  a5 := Tryd.isAgg5
  z5 := Tryd.sizeOf5
  v5 := Tryd.zeroValue5
  t9 := Tryd.underlying9
  a9 := Tryd.isAgg9
  z9 := Tryd.sizeOf9
  v9 := Tryd.zeroValue9 }
def Tryd.lays160_ren : Go.Shelf.Ren := ⟨fun | 160 => 33 | 232 => 41 | 231 => 40 | 227 => 42 | 234 => 44 | 233 => 43 | 236 => 46 | 235 => 45 | 228 => 50 | 271 => 53 | 151 => 52 | 197 => 51 | 120 => 57 | 152 => 56 | 260 => 55 | 137 => 34 | 119 => 58 | 224 => 59 | 225 => 60 | 217 => 47 | 266 => 54 | n => n, fun | 9 => 9 | 4 => 4 | 3 => 3 | 5 => 5 | 117 => 73 | 116 => 72 | 0 => 0 | 124 => 76 | 21 => 21 | 105 => 78 | 46 => 69 | 119 => 82 | 139 => 85 | 138 => 84 | n => n, fun | 3 => 1 | 4 => 2 | n => n⟩
theorem Tryd.lays160 : Go.Proofs.Lays.n160 Tryd.prog Tryd.lays160_ren := {
  mixed := by kernel_rfl
  f119 := Tryd.func58.trans (congrArg some (by kernel_rfl))
  f120 := Tryd.func57.trans (congrArg some (by kernel_rfl))
  f137 := Tryd.func34.trans (congrArg some (by kernel_rfl))
  f151 := Tryd.func52.trans (congrArg some (by kernel_rfl))
  f152 := Tryd.func56.trans (congrArg some (by kernel_rfl))
  f160 := Tryd.func33.trans (congrArg some (by kernel_rfl))
  f197 := Tryd.func51.trans (congrArg some (by kernel_rfl))
  f217 := Tryd.func47.trans (congrArg some (by kernel_rfl))
  f224 := Tryd.func59.trans (congrArg some (by kernel_rfl))
  f225 := Tryd.func60.trans (congrArg some (by kernel_rfl))
  f227 := Tryd.func42.trans (congrArg some (by kernel_rfl))
  f228 := Tryd.func50.trans (congrArg some (by kernel_rfl))
  f231 := Tryd.func40.trans (congrArg some (by kernel_rfl))
  f232 := Tryd.func41.trans (congrArg some (by kernel_rfl))
  f233 := Tryd.func43.trans (congrArg some (by kernel_rfl))
  f234 := Tryd.func44.trans (congrArg some (by kernel_rfl))
  f235 := Tryd.func45.trans (congrArg some (by kernel_rfl))
  f236 := Tryd.func46.trans (congrArg some (by kernel_rfl))
  f260 := Tryd.func55.trans (congrArg some (by kernel_rfl))
  f266 := Tryd.func54.trans (congrArg some (by kernel_rfl))
  f271 := Tryd.func53.trans (congrArg some (by kernel_rfl))
  t0 := Tryd.underlying0
  a0 := Tryd.isAgg0
  z0 := Tryd.sizeOf0
  v0 := Tryd.zeroValue0
  t3 := Tryd.underlying3
  a3 := Tryd.isAgg3
  z3 := Tryd.sizeOf3
  v3 := Tryd.zeroValue3
  t4 := Tryd.underlying4
  a4 := Tryd.isAgg4
  z4 := Tryd.sizeOf4
  v4 := Tryd.zeroValue4
  t5 := Tryd.underlying5
  a5 := Tryd.isAgg5
  z5 := Tryd.sizeOf5
  v5 := Tryd.zeroValue5
  t9 := Tryd.underlying9
  a9 := Tryd.isAgg9
  z9 := Tryd.sizeOf9
  v9 := Tryd.zeroValue9
  t21 := Tryd.underlying21
  a21 := Tryd.isAgg21
  z21 := Tryd.sizeOf21
  v21 := Tryd.zeroValue21
  t46 := Tryd.underlying69
  a46 := Tryd.isAgg69
  z46 := Tryd.sizeOf69
  v46 := Tryd.zeroValue69
  t105 := Tryd.underlying78
  a105 := Tryd.isAgg78
  z105 := Tryd.sizeOf78
  v105 := Tryd.zeroValue78
  t116 := Tryd.underlying72
  a116 := Tryd.isAgg72
  z116 := Tryd.sizeOf72
  t117 := Tryd.underlying73
  a117 := Tryd.isAgg73
  z117 := Tryd.sizeOf73
  v117 := Tryd.zeroValue73
  t119 := Tryd.underlying82
  a119 := Tryd.isAgg82
  z119 := Tryd.sizeOf82
  t124 := Tryd.underlying76
  a124 := Tryd.isAgg76
  z124 := Tryd.sizeOf76
  v124 := Tryd.zeroValue76
  t138 := Tryd.underlying84
  a138 := Tryd.isAgg84
  z138 := Tryd.sizeOf84
  v138 := Tryd.zeroValue84
  t139 := Tryd.underlying85
  a139 := Tryd.isAgg85
  z139 := Tryd.sizeOf85
  v139 := Tryd.zeroValue85
  g3 := by kernel_rfl
  g4 := by kernel_rfl }
end Go.Proofs
