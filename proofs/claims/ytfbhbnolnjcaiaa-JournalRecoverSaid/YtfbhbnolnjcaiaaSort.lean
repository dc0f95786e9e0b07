/-
  The library function that sorts a list of strings is laid at this program, so that its contract holds here.
  Conditions: none.
-/
import Derived.Test.YtfbhbnolnjcaiaaRows
import Derived.Shelf.SlGeneric
import Derived.Shelf.SortM.Plain
import Derived.Shelf.SortM.SortNone
import Derived.Ground.SlgmProg
namespace Go.Proofs
open Go.Shelf
def Try.mSort_ren : Go.Shelf.Ren := ⟨fun | 6 => 47 | 8 => 82 | 9 => 81 | 19 => 103 | 20 => 104 | 21 => 94 | 22 => 95 | 23 => 96 | 24 => 97 | 25 => 98 | 26 => 99 | 27 => 100 | 28 => 101 | 29 => 102 | 36 => 120 | 31 => 121 | 32 => 122 | 37 => 123 | 38 => 124 | 39 => 125 | 41 => 130 | n => n, fun | 27 => 53 | 29 => 9 | 3 => 3 | 32 => 69 | 26 => 53 | 0 => 0 | 44 => 155 | 46 => 157 | 4 => 4 | 36 => 147 | 35 => 146 | 41 => 152 | 5 => 5 | 9 => 9 | 53 => 174 | 57 => 178 | 63 => 183 | 64 => 184 | n => n, fun | n => n⟩
theorem Try.mSort : Go.Proofs.SlLaysM.n6 Try.prog Try.mSort_ren := {
  mixed := by kernel_rfl
  f6 := ⟨Try.f47.name, by decide, Try.func47.trans (congrArg some (by kernel_rfl))⟩
  f8 := Try.func82.trans (congrArg some (by kernel_rfl))
  f9 := ⟨Try.f81.name, by decide, Try.func81.trans (congrArg some (by kernel_rfl))⟩
  f19 := Try.func103.trans (congrArg some (by kernel_rfl))
  f20 := Try.func104.trans (congrArg some (by kernel_rfl))
  f21 := ⟨Try.f94.name, by decide, Try.func94.trans (congrArg some (by kernel_rfl))⟩
  f22 := ⟨Try.f95.name, by decide, Try.func95.trans (congrArg some (by kernel_rfl))⟩
  f23 := ⟨Try.f96.name, by decide, Try.func96.trans (congrArg some (by kernel_rfl))⟩
  f24 := ⟨Try.f97.name, by decide, Try.func97.trans (congrArg some (by kernel_rfl))⟩
  f25 := ⟨Try.f98.name, by decide, Try.func98.trans (congrArg some (by kernel_rfl))⟩
  f26 := ⟨Try.f99.name, by decide, Try.func99.trans (congrArg some (by kernel_rfl))⟩
  f27 := ⟨Try.f100.name, by decide, Try.func100.trans (congrArg some (by kernel_rfl))⟩
  f28 := ⟨Try.f101.name, by decide, Try.func101.trans (congrArg some (by kernel_rfl))⟩
  f29 := ⟨Try.f102.name, by decide, Try.func102.trans (congrArg some (by kernel_rfl))⟩
  f31 := Try.func121.trans (congrArg some (by kernel_rfl))
  f32 := Try.func122.trans (congrArg some (by kernel_rfl))
  f36 := ⟨Try.f120.name, by decide, Try.func120.trans (congrArg some (by kernel_rfl))⟩
  f37 := ⟨Try.f123.name, by decide, Try.func123.trans (congrArg some (by kernel_rfl))⟩
  f38 := ⟨Try.f124.name, by decide, Try.func124.trans (congrArg some (by kernel_rfl))⟩
  f39 := ⟨Try.f125.name, by decide, Try.func125.trans (congrArg some (by kernel_rfl))⟩
  f41 := ⟨Try.f130.name, by decide, Try.func130.trans (congrArg some (by kernel_rfl))⟩
  t0 := Try.underlying0
  a0 := Try.isAgg0
  z0 := Try.sizeOf0
  v0 := Try.zeroValue0
  t3 := Try.underlying3
  a3 := Try.isAgg3
  z3 := Try.sizeOf3
  v3 := Try.zeroValue3
  t4 := Try.underlying4
  a4 := Try.isAgg4
  z4 := Try.sizeOf4
  v4 := Try.zeroValue4
  t5 := Try.underlying5
  a5 := Try.isAgg5
  z5 := Try.sizeOf5
  v5 := Try.zeroValue5
  t9 := Try.underlying9
  a9 := Try.isAgg9
  z9 := Try.sizeOf9
  v9 := Try.zeroValue9
  t26 := Try.underlying53
  a26 := Try.isAgg53
  z26 := Try.sizeOf53
  v26 := Try.zeroValue53
  t27 := Try.underlying53
  a27 := Try.isAgg53
  z27 := Try.sizeOf53
  v27 := Try.zeroValue53
  t29 := Try.underlying9
  a29 := Try.isAgg9
  z29 := Try.sizeOf9
  v29 := Try.zeroValue9
  t32 := Try.underlying69
  a32 := Try.isAgg69
  z32 := Try.sizeOf69
  v32 := Try.zeroValue69
  t35 := Try.underlying146
  a35 := Try.isAgg146
  z35 := Try.sizeOf146
  v35 := Try.zeroValue146
  t36 := Try.underlying147
  a36 := Try.isAgg147
  z36 := Try.sizeOf147
  v36 := Try.zeroValue147
  t41 := Try.underlying152
  a41 := Try.isAgg152
  z41 := Try.sizeOf152
  v41 := Try.zeroValue152
  t44 := Try.underlying155
  a44 := Try.isAgg155
  z44 := Try.sizeOf155
  v44 := Try.zeroValue155
  t46 := Try.underlying157
  a46 := Try.isAgg157
  z46 := Try.sizeOf157
  v46 := Try.zeroValue157
  t53 := Try.underlying174
  a53 := Try.isAgg174
  z53 := Try.sizeOf174
  v53 := Try.zeroValue174
  t57 := Try.underlying178
  a57 := Try.isAgg178
  z57 := Try.sizeOf178
  v57 := Try.zeroValue178
  t63 := Try.underlying183
  a63 := Try.isAgg183
  z63 := Try.sizeOf183
  v63 := Try.zeroValue183
  t64 := Try.underlying184
  a64 := Try.isAgg184
  z64 := Try.sizeOf184
  v64 := Try.zeroValue184 }
end Go.Proofs
