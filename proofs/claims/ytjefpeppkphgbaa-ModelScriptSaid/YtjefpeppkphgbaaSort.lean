/-
  The library function that sorts a list of strings is laid at this program, so that its contract holds here.
  Conditions: none.
-/
import Derived.Test.YtjefpeppkphgbaaRows
import Derived.Shelf.SlGeneric
import Derived.Shelf.SortM.Plain
import Derived.Shelf.SortM.SortNone
import Derived.Ground.SlgmProg
namespace Go.Proofs
open Go.Shelf
def Try.mSort_ren : Go.Shelf.Ren := ⟨fun | 6 => 85 | 8 => 114 | 9 => 113 | 19 => 132 | 20 => 133 | 21 => 123 | 22 => 124 | 23 => 125 | 24 => 126 | 25 => 127 | 26 => 128 | 27 => 129 | 28 => 130 | 29 => 131 | 36 => 136 | 31 => 137 | 32 => 138 | 37 => 139 | 38 => 140 | 39 => 141 | 41 => 143 | n => n, fun | 27 => 85 | 29 => 9 | 3 => 3 | 32 => 96 | 26 => 85 | 0 => 0 | 44 => 137 | 46 => 136 | 4 => 4 | 36 => 173 | 35 => 172 | 41 => 178 | 5 => 5 | 9 => 9 | 53 => 184 | 57 => 188 | 63 => 191 | 64 => 192 | n => n, fun | n => n⟩
theorem Try.mSort : Go.Proofs.SlLaysM.n6 Try.prog Try.mSort_ren := {
  mixed := by kernel_rfl
  f6 := ⟨Try.f85.name, by decide, Try.func85.trans (congrArg some (by kernel_rfl))⟩
  f8 := Try.func114.trans (congrArg some (by kernel_rfl))
  f9 := ⟨Try.f113.name, by decide, Try.func113.trans (congrArg some (by kernel_rfl))⟩
  f19 := Try.func132.trans (congrArg some (by kernel_rfl))
  f20 := Try.func133.trans (congrArg some (by kernel_rfl))
  f21 := ⟨Try.f123.name, by decide, Try.func123.trans (congrArg some (by kernel_rfl))⟩
  f22 := ⟨Try.f124.name, by decide, Try.func124.trans (congrArg some (by kernel_rfl))⟩
  f23 := ⟨Try.f125.name, by decide, Try.func125.trans (congrArg some (by kernel_rfl))⟩
  f24 := ⟨Try.f126.name, by decide, Try.func126.trans (congrArg some (by kernel_rfl))⟩
  f25 := ⟨Try.f127.name, by decide, Try.func127.trans (congrArg some (by kernel_rfl))⟩
  f26 := ⟨Try.f128.name, by decide, Try.func128.trans (congrArg some (by kernel_rfl))⟩
  f27 := ⟨Try.f129.name, by decide, Try.func129.trans (congrArg some (by kernel_rfl))⟩
  f28 := ⟨Try.f130.name, by decide, Try.func130.trans (congrArg some (by kernel_rfl))⟩
  f29 := ⟨Try.f131.name, by decide, Try.func131.trans (congrArg some (by kernel_rfl))⟩
  f31 := Try.func137.trans (congrArg some (by kernel_rfl))
  f32 := Try.func138.trans (congrArg some (by kernel_rfl))
  f36 := ⟨Try.f136.name, by decide, Try.func136.trans (congrArg some (by kernel_rfl))⟩
  f37 := ⟨Try.f139.name, by decide, Try.func139.trans (congrArg some (by kernel_rfl))⟩
  f38 := ⟨Try.f140.name, by decide, Try.func140.trans (congrArg some (by kernel_rfl))⟩
  f39 := ⟨Try.f141.name, by decide, Try.func141.trans (congrArg some (by kernel_rfl))⟩
  f41 := ⟨Try.f143.name, by decide, Try.func143.trans (congrArg some (by kernel_rfl))⟩
  t0 := Try.underlying0
  a0 := Try.isAgg0
  z0 := Try.sizeOf0
  v0 := Try.zeroValue0
  t3 := Try.underlying3
  a3 := Try.isAgg3
  z3 := Try.sizeOf3
  v3 := Try.zeroValue3
  t4 := Try.underlying4
  a4 := Try.isAgg4
  z4 := Try.sizeOf4
  v4 := Try.zeroValue4
  t5 := Try.underlying5
  a5 := Try.isAgg5
  z5 := Try.sizeOf5
  v5 := Try.zeroValue5
  t9 := Try.underlying9
  a9 := Try.isAgg9
  z9 := Try.sizeOf9
  v9 := Try.zeroValue9
  t26 := Try.underlying85
  a26 := Try.isAgg85
  z26 := Try.sizeOf85
  v26 := Try.zeroValue85
  t27 := Try.underlying85
  a27 := Try.isAgg85
  z27 := Try.sizeOf85
  v27 := Try.zeroValue85
  t29 := Try.underlying9
  a29 := Try.isAgg9
  z29 := Try.sizeOf9
  v29 := Try.zeroValue9
  t32 := Try.underlying96
  a32 := Try.isAgg96
  z32 := Try.sizeOf96
  v32 := Try.zeroValue96
  t35 := Try.underlying172
  a35 := Try.isAgg172
  z35 := Try.sizeOf172
  v35 := Try.zeroValue172
  t36 := Try.underlying173
  a36 := Try.isAgg173
  z36 := Try.sizeOf173
  v36 := Try.zeroValue173
  t41 := Try.underlying178
  a41 := Try.isAgg178
  z41 := Try.sizeOf178
  v41 := Try.zeroValue178
  t44 := Try.underlying137
  a44 := Try.isAgg137
  z44 := Try.sizeOf137
  v44 := Try.zeroValue137
  t46 := Try.underlying136
  a46 := Try.isAgg136
  z46 := Try.sizeOf136
  v46 := Try.zeroValue136
  t53 := Try.underlying184
  a53 := Try.isAgg184
  z53 := Try.sizeOf184
  v53 := Try.zeroValue184
  t57 := Try.underlying188
  a57 := Try.isAgg188
  z57 := Try.sizeOf188
  v57 := Try.zeroValue188
  t63 := Try.underlying191
  a63 := Try.isAgg191
  z63 := Try.sizeOf191
  v63 := Try.zeroValue191
  t64 := Try.underlying192
  a64 := Try.isAgg192
  z64 := Try.sizeOf192
  v64 := Try.zeroValue192 }
end Go.Proofs
