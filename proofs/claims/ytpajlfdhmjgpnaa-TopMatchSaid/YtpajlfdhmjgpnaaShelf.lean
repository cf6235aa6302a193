/-
  The numbers of the library's functions in this program: the kit's tables, printed by its own tool.
  Conditions: none.
-/
import Derived.Shelf.SlSortCmp.WholeK
import Derived.Shelf.SlSortCmp.NoneTotal
import Derived.Test.YtpajlfdhmjgpnaaProg
namespace Go.Proofs.Ytpajlfdhmjgpnaa
open Go Go.Proofs Go.Shelf
def Try.sortBd_ren : Go.Shelf.Ren := ⟨fun | 6 => 79 | 15 => 88 | 14 => 87 | 28 => 101 | 29 => 102 | 20 => 93 | 21 => 94 | 22 => 95 | 23 => 96 | 24 => 97 | 25 => 98 | 26 => 99 | 27 => 100 | 46 => 103 | 47 => 104 | 48 => 105 | 49 => 106 | 50 => 107 | 57 => 108 | n => n, fun | 22 => 28 | 24 => 63 | 25 => 101 | 3 => 3 | 39 => 108 | 0 => 0 | 53 => 121 | 55 => 123 | 4 => 4 | 46 => 115 | 45 => 114 | 50 => 109 | 5 => 5 | 9 => 9 | 66 => 124 | 70 => 128 | 76 => 130 | 77 => 131 | n => n, fun | n => n⟩
theorem Try.sortBd : Go.Proofs.SlLaysF0.n6 Try.prog Try.sortBd_ren := {
  mixed := by kernel_rfl
  f6 := ⟨Try.f79.name, by decide, Try.func79.trans (congrArg some (by kernel_rfl))⟩
  f14 := ⟨Try.f87.name, by decide, Try.func87.trans (congrArg some (by kernel_rfl))⟩
  f15 := Try.func88.trans (congrArg some (by kernel_rfl))
  f20 := ⟨Try.f93.name, by decide, Try.func93.trans (congrArg some (by kernel_rfl))⟩
  f21 := ⟨Try.f94.name, by decide, Try.func94.trans (congrArg some (by kernel_rfl))⟩
  f22 := ⟨Try.f95.name, by decide, Try.func95.trans (congrArg some (by kernel_rfl))⟩
  f23 := ⟨Try.f96.name, by decide, Try.func96.trans (congrArg some (by kernel_rfl))⟩
  f24 := ⟨Try.f97.name, by decide, Try.func97.trans (congrArg some (by kernel_rfl))⟩
  f25 := ⟨Try.f98.name, by decide, Try.func98.trans (congrArg some (by kernel_rfl))⟩
  f26 := ⟨Try.f99.name, by decide, Try.func99.trans (congrArg some (by kernel_rfl))⟩
  f27 := ⟨Try.f100.name, by decide, Try.func100.trans (congrArg some (by kernel_rfl))⟩
  f28 := Try.func101.trans (congrArg some (by kernel_rfl))
  f29 := Try.func102.trans (congrArg some (by kernel_rfl))
  f46 := ⟨Try.f103.name, by decide, Try.func103.trans (congrArg some (by kernel_rfl))⟩
  f47 := Try.func104.trans (congrArg some (by kernel_rfl))
  f48 := Try.func105.trans (congrArg some (by kernel_rfl))
  f49 := ⟨Try.f106.name, by decide, Try.func106.trans (congrArg some (by kernel_rfl))⟩
  f50 := ⟨Try.f107.name, by decide, Try.func107.trans (congrArg some (by kernel_rfl))⟩
  f57 := ⟨Try.f108.name, by decide, Try.func108.trans (congrArg some (by kernel_rfl))⟩
  t0 := Try.underlying0
  a0 := Try.isAgg0
  z0 := Try.sizeOf0
  v0 := Try.zeroValue0
  t3 := Try.underlying3
  a3 := Try.isAgg3
  z3 := Try.sizeOf3
  v3 := Try.zeroValue3
  t4 := Try.underlying4
  a4 := Try.isAgg4
  z4 := Try.sizeOf4
  v4 := Try.zeroValue4
  t5 := Try.underlying5
  a5 := Try.isAgg5
  z5 := Try.sizeOf5
  v5 := Try.zeroValue5
  t9 := Try.underlying9
  a9 := Try.isAgg9
  z9 := Try.sizeOf9
  v9 := Try.zeroValue9
  t22 := Try.underlying28
  a22 := Try.isAgg28
  z22 := Try.sizeOf28
  v22 := Try.zeroValue28
  t25 := Try.underlying101
  a25 := Try.isAgg101
  z25 := Try.sizeOf101
  v25 := Try.zeroValue101
  t39 := Try.underlying108
  a39 := Try.isAgg108
  z39 := Try.sizeOf108
  v39 := Try.zeroValue108
  t45 := Try.underlying114
  a45 := Try.isAgg114
  z45 := Try.sizeOf114
  v45 := Try.zeroValue114
  t46 := Try.underlying115
  a46 := Try.isAgg115
  z46 := Try.sizeOf115
  v46 := Try.zeroValue115
  t50 := Try.underlying109
  a50 := Try.isAgg109
  z50 := Try.sizeOf109
  v50 := Try.zeroValue109
  t53 := Try.underlying121
  a53 := Try.isAgg121
  z53 := Try.sizeOf121
  v53 := Try.zeroValue121
  t55 := Try.underlying123
  a55 := Try.isAgg123
  z55 := Try.sizeOf123
  v55 := Try.zeroValue123
  t66 := Try.underlying124
  a66 := Try.isAgg124
  z66 := Try.sizeOf124
  v66 := Try.zeroValue124
  t70 := Try.underlying128
  a70 := Try.isAgg128
  z70 := Try.sizeOf128
  v70 := Try.zeroValue128
  t76 := Try.underlying130
  a76 := Try.isAgg130
  z76 := Try.sizeOf130
  v76 := Try.zeroValue130
  t77 := Try.underlying131
  a77 := Try.isAgg131
  z77 := Try.sizeOf131
  v77 := Try.zeroValue131 }
end Go.Proofs.Ytpajlfdhmjgpnaa
