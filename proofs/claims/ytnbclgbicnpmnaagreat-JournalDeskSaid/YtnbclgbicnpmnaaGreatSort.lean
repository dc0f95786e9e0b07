/-
  The library function that sorts a list of strings is laid at this program, so that its contract holds here.
  Conditions: none.
-/
import Derived.Test.YtnbclgbicnpmnaaGreatRows
import Derived.Shelf.SlGeneric
import Derived.Shelf.SortM.Plain
import Derived.Shelf.SortM.SortNone
import Derived.Ground.SlgmProg
namespace Go.Proofs
open Go.Shelf
def Tryz.mSort_ren : Go.Shelf.Ren := ⟨fun | 6 => 124 | 8 => 165 | 9 => 164 | 19 => 184 | 20 => 185 | 21 => 175 | 22 => 176 | 23 => 177 | 24 => 178 | 25 => 179 | 26 => 180 | 27 => 181 | 28 => 182 | 29 => 183 | 36 => 192 | 31 => 193 | 32 => 194 | 37 => 195 | 38 => 196 | 39 => 197 | 41 => 204 | n => n, fun | 27 => 24 | 29 => 9 | 3 => 3 | 32 => 113 | 26 => 24 | 0 => 0 | 44 => 225 | 46 => 223 | 4 => 4 | 36 => 243 | 35 => 242 | 41 => 248 | 5 => 5 | 9 => 9 | 53 => 258 | 57 => 262 | 63 => 273 | 64 => 274 | n => n, fun | n => n⟩
theorem Tryz.mSort : Go.Proofs.SlLaysM.n6 Tryz.prog Tryz.mSort_ren := {
  mixed := by kernel_rfl
  f6 := ⟨Tryz.f124.name, by decide, Tryz.func124.trans (congrArg some (by kernel_rfl))⟩
  f8 := Tryz.func165.trans (congrArg some (by kernel_rfl))
  f9 := ⟨Tryz.f164.name, by decide, Tryz.func164.trans (congrArg some (by kernel_rfl))⟩
  f19 := Tryz.func184.trans (congrArg some (by kernel_rfl))
  f20 := Tryz.func185.trans (congrArg some (by kernel_rfl))
  f21 := ⟨Tryz.f175.name, by decide, Tryz.func175.trans (congrArg some (by kernel_rfl))⟩
  f22 := ⟨Tryz.f176.name, by decide, Tryz.func176.trans (congrArg some (by kernel_rfl))⟩
  f23 := ⟨Tryz.f177.name, by decide, Tryz.func177.trans (congrArg some (by kernel_rfl))⟩
  f24 := ⟨Tryz.f178.name, by decide, Tryz.func178.trans (congrArg some (by kernel_rfl))⟩
  f25 := ⟨Tryz.f179.name, by decide, Tryz.func179.trans (congrArg some (by kernel_rfl))⟩
  f26 := ⟨Tryz.f180.name, by decide, Tryz.func180.trans (congrArg some (by kernel_rfl))⟩
  f27 := ⟨Tryz.f181.name, by decide, Tryz.func181.trans (congrArg some (by kernel_rfl))⟩
  f28 := ⟨Tryz.f182.name, by decide, Tryz.func182.trans (congrArg some (by kernel_rfl))⟩
  f29 := ⟨Tryz.f183.name, by decide, Tryz.func183.trans (congrArg some (by kernel_rfl))⟩
  f31 := Tryz.func193.trans (congrArg some (by kernel_rfl))
  f32 := Tryz.func194.trans (congrArg some (by kernel_rfl))
  f36 := ⟨Tryz.f192.name, by decide, Tryz.func192.trans (congrArg some (by kernel_rfl))⟩
  f37 := ⟨Tryz.f195.name, by decide, Tryz.func195.trans (congrArg some (by kernel_rfl))⟩
  f38 := ⟨Tryz.f196.name, by decide, Tryz.func196.trans (congrArg some (by kernel_rfl))⟩
  f39 := ⟨Tryz.f197.name, by decide, Tryz.func197.trans (congrArg some (by kernel_rfl))⟩
  f41 := ⟨Tryz.f204.name, by decide, Tryz.func204.trans (congrArg some (by kernel_rfl))⟩
  t0 := Tryz.underlying0
  a0 := Tryz.isAgg0
  z0 := Tryz.sizeOf0
  v0 := Tryz.zeroValue0
  t3 := Tryz.underlying3
  a3 := Tryz.isAgg3
  z3 := Tryz.sizeOf3
  v3 := Tryz.zeroValue3
  t4 := Tryz.underlying4
  a4 := Tryz.isAgg4
  z4 := Tryz.sizeOf4
  v4 := Tryz.zeroValue4
  t5 := Tryz.underlying5
  a5 := Tryz.isAgg5
  z5 := Tryz.sizeOf5
  v5 := Tryz.zeroValue5
  t9 := Tryz.underlying9
  a9 := Tryz.isAgg9
  z9 := Tryz.sizeOf9
  v9 := Tryz.zeroValue9
  t26 := Tryz.underlying24
  a26 := Tryz.isAgg24
  z26 := Tryz.sizeOf24
  v26 := Tryz.zeroValue24
  t27 := Tryz.underlying24
  a27 := Tryz.isAgg24
  z27 := Tryz.sizeOf24
  v27 := Tryz.zeroValue24
  t29 := Tryz.underlying9
  a29 := Tryz.isAgg9
  z29 := Tryz.sizeOf9
  v29 := Tryz.zeroValue9
  t32 := Tryz.underlying113
  a32 := Tryz.isAgg113
  z32 := Tryz.sizeOf113
  v32 := Tryz.zeroValue113
  t35 := Tryz.underlying242
  a35 := Tryz.isAgg242
  z35 := Tryz.sizeOf242
  v35 := Tryz.zeroValue242
  t36 := Tryz.underlying243
  a36 := Tryz.isAgg243
  z36 := Tryz.sizeOf243
  v36 := Tryz.zeroValue243
  t41 := Tryz.underlying248
  a41 := Tryz.isAgg248
  z41 := Tryz.sizeOf248
  v41 := Tryz.zeroValue248
  t44 := Tryz.underlying225
  a44 := Tryz.isAgg225
  z44 := Tryz.sizeOf225
  v44 := Tryz.zeroValue225
  t46 := Tryz.underlying223
  a46 := Tryz.isAgg223
  z46 := Tryz.sizeOf223
  v46 := Tryz.zeroValue223
  t53 := Tryz.underlying258
  a53 := Tryz.isAgg258
  z53 := Tryz.sizeOf258
  v53 := Tryz.zeroValue258
  t57 := Tryz.underlying262
  a57 := Tryz.isAgg262
  z57 := Tryz.sizeOf262
  v57 := Tryz.zeroValue262
  t63 := Tryz.underlying273
  a63 := Tryz.isAgg273
  z63 := Tryz.sizeOf273
  v63 := Tryz.zeroValue273
  t64 := Tryz.underlying274
  a64 := Tryz.isAgg274
  z64 := Tryz.sizeOf274
  v64 := Tryz.zeroValue274 }
end Go.Proofs
