/- Functions of the given program, each a Lean function and the walk that shows it. -/
import Derived.Test.YtdiojfaenfggkaaGreatNTopFewestA
import Derived.Shelf.SlGeneric
import Derived.Ground.SlsfProg
import Derived.Ground.SlsgProg
import Derived.Shelf.SlSortCmp.Whole1
import Derived.Shelf.SlCmpFuncs.BinarySearchFunc
import Derived.Test.YtdiojfaenfggkaaGreatProg
import Derived.Shelf.Sort.Plain
import Derived.Shelf.Slices.Turned
import Derived.Shelf.Slices.Reverse
import Derived.Ground.Names2Prog
import Derived.Shelf.Slices.CompactI
import Derived.Shelf.Slices.SearchI
import Derived.Shelf.Slices.Cells
import Derived.Shelf.Slices.In.SortNone
import Derived.Shelf.Slices.Empties
import Derived.Ground.SlgnProg
namespace Go.Proofs
open Go.Shelf
def Tryz.sortTok_ren : Go.Shelf.Ren := ⟨fun | 6 => 172 | 15 => 184 | 14 => 202 | 28 => 207 | 29 => 208 | 20 => 225 | 21 => 226 | 22 => 227 | 23 => 228 | 24 => 229 | 25 => 230 | 26 => 231 | 27 => 232 | 46 => 242 | 47 => 238 | 48 => 239 | 49 => 243 | 50 => 244 | 57 => 250 | n => n, fun | 22 => 60 | 24 => 22 | 25 => 148 | 3 => 3 | 39 => 234 | 0 => 0 | 53 => 159 | 55 => 233 | 4 => 4 | 46 => 263 | 45 => 262 | 50 => 146 | 5 => 5 | 9 => 9 | 66 => 281 | 70 => 285 | 76 => 292 | 77 => 64 | n => n, fun | n => n⟩
theorem Tryz.sortTok : Go.Proofs.SlLaysF.n6 Tryz.prog Tryz.sortTok_ren := {
  mixed := by kernel_rfl
  f6 := ⟨Tryz.f172.name, by decide, Tryz.func172.trans (congrArg some (by kernel_rfl))⟩
  f14 := ⟨Tryz.f202.name, by decide, Tryz.func202.trans (congrArg some (by kernel_rfl))⟩
  f15 := Tryz.func184.trans (congrArg some (by kernel_rfl))
  f20 := ⟨Tryz.f225.name, by decide, Tryz.func225.trans (congrArg some (by kernel_rfl))⟩
  f21 := ⟨Tryz.f226.name, by decide, Tryz.func226.trans (congrArg some (by kernel_rfl))⟩
  f22 := ⟨Tryz.f227.name, by decide, Tryz.func227.trans (congrArg some (by kernel_rfl))⟩
  f23 := ⟨Tryz.f228.name, by decide, Tryz.func228.trans (congrArg some (by kernel_rfl))⟩
  f24 := ⟨Tryz.f229.name, by decide, Tryz.func229.trans (congrArg some (by kernel_rfl))⟩
  f25 := ⟨Tryz.f230.name, by decide, Tryz.func230.trans (congrArg some (by kernel_rfl))⟩
  f26 := ⟨Tryz.f231.name, by decide, Tryz.func231.trans (congrArg some (by kernel_rfl))⟩
  f27 := ⟨Tryz.f232.name, by decide, Tryz.func232.trans (congrArg some (by kernel_rfl))⟩
  f28 := Tryz.func207.trans (congrArg some (by kernel_rfl))
  f29 := Tryz.func208.trans (congrArg some (by kernel_rfl))
  f46 := ⟨Tryz.f242.name, by decide, Tryz.func242.trans (congrArg some (by kernel_rfl))⟩
  f47 := Tryz.func238.trans (congrArg some (by kernel_rfl))
  f48 := Tryz.func239.trans (congrArg some (by kernel_rfl))
  f49 := ⟨Tryz.f243.name, by decide, Tryz.func243.trans (congrArg some (by kernel_rfl))⟩
  f50 := ⟨Tryz.f244.name, by decide, Tryz.func244.trans (congrArg some (by kernel_rfl))⟩
  f57 := ⟨Tryz.f250.name, by decide, Tryz.func250.trans (congrArg some (by kernel_rfl))⟩
  t0 := Tryz.underlying0
  a0 := Tryz.isAgg0
  z0 := Tryz.sizeOf0
  v0 := Tryz.zeroValue0
  t3 := Tryz.underlying3
  a3 := Tryz.isAgg3
  z3 := Tryz.sizeOf3
  v3 := Tryz.zeroValue3
  t4 := Tryz.underlying4
  a4 := Tryz.isAgg4
  z4 := Tryz.sizeOf4
  v4 := Tryz.zeroValue4
  t5 := Tryz.underlying5
  a5 := Tryz.isAgg5
  z5 := Tryz.sizeOf5
  v5 := Tryz.zeroValue5
  t9 := Tryz.underlying9
  a9 := Tryz.isAgg9
  z9 := Tryz.sizeOf9
  v9 := Tryz.zeroValue9
  t22 := Tryz.underlying60
  a22 := Tryz.isAgg60
  z22 := Tryz.sizeOf60
  v22 := Tryz.zeroValue60
  a24 := Tryz.isAgg22
  z24 := Tryz.sizeOf22
  t25 := Tryz.underlying148
  a25 := Tryz.isAgg148
  z25 := Tryz.sizeOf148
  v25 := Tryz.zeroValue148
  t39 := Tryz.underlying234
  a39 := Tryz.isAgg234
  z39 := Tryz.sizeOf234
  v39 := Tryz.zeroValue234
  t45 := Tryz.underlying262
  a45 := Tryz.isAgg262
  z45 := Tryz.sizeOf262
  v45 := Tryz.zeroValue262
  t46 := Tryz.underlying263
  a46 := Tryz.isAgg263
  z46 := Tryz.sizeOf263
  v46 := Tryz.zeroValue263
  t50 := Tryz.underlying146
  a50 := Tryz.isAgg146
  z50 := Tryz.sizeOf146
  v50 := Tryz.zeroValue146
  t53 := Tryz.underlying159
  a53 := Tryz.isAgg159
  z53 := Tryz.sizeOf159
  v53 := Tryz.zeroValue159
  t55 := Tryz.underlying233
  a55 := Tryz.isAgg233
  z55 := Tryz.sizeOf233
  v55 := Tryz.zeroValue233
  t66 := Tryz.underlying281
  a66 := Tryz.isAgg281
  z66 := Tryz.sizeOf281
  v66 := Tryz.zeroValue281
  t70 := Tryz.underlying285
  a70 := Tryz.isAgg285
  z70 := Tryz.sizeOf285
  v70 := Tryz.zeroValue285
  t76 := Tryz.underlying292
  a76 := Tryz.isAgg292
  z76 := Tryz.sizeOf292
  v76 := Tryz.zeroValue292
  t77 := Tryz.underlying64
  a77 := Tryz.isAgg64
  z77 := Tryz.sizeOf64
  v77 := Tryz.zeroValue64 }
def Tryz.findTok_ren : Go.Shelf.Ren := ⟨fun | 14 => 204 | n => n, fun | 22 => 60 | 24 => 22 | 29 => 22 | 32 => 148 | 3 => 3 | 4 => 4 | 35 => 234 | 0 => 0 | n => n, fun | n => n⟩
theorem Tryz.findTok : Go.Proofs.SlLaysG2.n14 Tryz.prog Tryz.findTok_ren := {
  mixed := by kernel_rfl
  f14 := ⟨Tryz.f204.name, by decide, Tryz.func204.trans (congrArg some (by kernel_rfl))⟩
  t0 := Tryz.underlying0
  a0 := Tryz.isAgg0
  z0 := Tryz.sizeOf0
  v0 := Tryz.zeroValue0
  t3 := Tryz.underlying3
  a3 := Tryz.isAgg3
  z3 := Tryz.sizeOf3
  v3 := Tryz.zeroValue3
  t4 := Tryz.underlying4
  a4 := Tryz.isAgg4
  z4 := Tryz.sizeOf4
  v4 := Tryz.zeroValue4
  t22 := Tryz.underlying60
  a22 := Tryz.isAgg60
  z22 := Tryz.sizeOf60
  v22 := Tryz.zeroValue60
  a24 := Tryz.isAgg22
  z24 := Tryz.sizeOf22
  a29 := Tryz.isAgg22
  z29 := Tryz.sizeOf22
  t32 := Tryz.underlying148
  a32 := Tryz.isAgg148
  z32 := Tryz.sizeOf148
  v32 := Tryz.zeroValue148
  t35 := Tryz.underlying234
  a35 := Tryz.isAgg234
  z35 := Tryz.sizeOf234
  v35 := Tryz.zeroValue234 }
end Go.Proofs
namespace Go.Proofs
open Go.Shelf
end Go.Proofs
