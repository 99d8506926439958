/-
  The bodies of slices.SortFunc stand in the program, numbered by srtR. No condition.
-/
import Derived.Shelf.SlSortCmp.NoneTotal
import Derived.Test.YtbammppeneoffaaChecked
namespace Go.Proofs.Ytbammppeneoffaa
open Go Go.Shelf Go.Proofs
set_option maxRecDepth 100000
def srtR : Go.Shelf.Ren := ⟨fun | 6 => 19 | 15 => 24 | 14 => 23 | 28 => 33 | 29 => 34 | 20 => 25 | 21 => 26 | 22 => 27 | 23 => 28 | 24 => 29 | 25 => 30 | 26 => 31 | 27 => 32 | 46 => 35 | 47 => 36 | 48 => 37 | 49 => 38 | 50 => 39 | 57 => 40 | n => n, fun | 22 => 22 | 24 => 31 | 25 => 48 | 3 => 3 | 39 => 59 | 0 => 0 | 53 => 70 | 55 => 72 | 4 => 4 | 46 => 63 | 45 => 62 | 50 => 67 | 5 => 5 | 9 => 9 | 66 => 73 | 70 => 77 | 76 => 79 | 77 => 80 | n => n, fun n => n⟩
theorem srt_lays : SlLaysF0.n6 Try.prog srtR where
  mixed := by kernel_rfl
  f6 := ⟨"slices.SortFunc[[]gloss/api.Hit,gloss/api.Hit]", by decide, Try.func19.trans (congrArg some (by kernel_rfl))⟩
  f14 := ⟨"slices.pdqsortCmpFunc[gloss/api.Hit]", by decide, Try.func23.trans (congrArg some (by kernel_rfl))⟩
  f15 := Try.func24.trans (congrArg some (by kernel_rfl))
  f20 := ⟨"slices.insertionSortCmpFunc[gloss/api.Hit]", by decide, Try.func25.trans (congrArg some (by kernel_rfl))⟩
  f21 := ⟨"slices.heapSortCmpFunc[gloss/api.Hit]", by decide, Try.func26.trans (congrArg some (by kernel_rfl))⟩
  f22 := ⟨"slices.breakPatternsCmpFunc[gloss/api.Hit]", by decide, Try.func27.trans (congrArg some (by kernel_rfl))⟩
  f23 := ⟨"slices.choosePivotCmpFunc[gloss/api.Hit]", by decide, Try.func28.trans (congrArg some (by kernel_rfl))⟩
  f24 := ⟨"slices.reverseRangeCmpFunc[gloss/api.Hit]", by decide, Try.func29.trans (congrArg some (by kernel_rfl))⟩
  f25 := ⟨"slices.partialInsertionSortCmpFunc[gloss/api.Hit]", by decide, Try.func30.trans (congrArg some (by kernel_rfl))⟩
  f26 := ⟨"slices.partitionEqualCmpFunc[gloss/api.Hit]", by decide, Try.func31.trans (congrArg some (by kernel_rfl))⟩
  f27 := ⟨"slices.partitionCmpFunc[gloss/api.Hit]", by decide, Try.func32.trans (congrArg some (by kernel_rfl))⟩
  f28 := Try.func33.trans (congrArg some (by kernel_rfl))
  f29 := Try.func34.trans (congrArg some (by kernel_rfl))
  f46 := ⟨"slices.siftDownCmpFunc[gloss/api.Hit]", by decide, Try.func35.trans (congrArg some (by kernel_rfl))⟩
  f47 := Try.func36.trans (congrArg some (by kernel_rfl))
  f48 := Try.func37.trans (congrArg some (by kernel_rfl))
  f49 := ⟨"slices.medianAdjacentCmpFunc[gloss/api.Hit]", by decide, Try.func38.trans (congrArg some (by kernel_rfl))⟩
  f50 := ⟨"slices.medianCmpFunc[gloss/api.Hit]", by decide, Try.func39.trans (congrArg some (by kernel_rfl))⟩
  f57 := ⟨"slices.order2CmpFunc[gloss/api.Hit]", by decide, Try.func40.trans (congrArg some (by kernel_rfl))⟩
  t0 := Try.underlying0
  a0 := Try.isAgg0
  z0 := Try.sizeOf0
  v0 := Try.zeroValue0
  t3 := Try.underlying3
  a3 := Try.isAgg3
  z3 := Try.sizeOf3
  v3 := Try.zeroValue3
  t4 := Try.underlying4
  a4 := Try.isAgg4
  z4 := Try.sizeOf4
  v4 := Try.zeroValue4
  t5 := Try.underlying5
  a5 := Try.isAgg5
  z5 := Try.sizeOf5
  v5 := Try.zeroValue5
  t9 := Try.underlying9
  a9 := Try.isAgg9
  z9 := Try.sizeOf9
  v9 := Try.zeroValue9
  t22 := Try.underlying22
  a22 := Try.isAgg22
  z22 := Try.sizeOf22
  v22 := Try.zeroValue22
  t25 := Try.underlying48
  a25 := Try.isAgg48
  z25 := Try.sizeOf48
  v25 := Try.zeroValue48
  t39 := Try.underlying59
  a39 := Try.isAgg59
  z39 := Try.sizeOf59
  v39 := Try.zeroValue59
  t45 := Try.underlying62
  a45 := Try.isAgg62
  z45 := Try.sizeOf62
  v45 := Try.zeroValue62
  t46 := Try.underlying63
  a46 := Try.isAgg63
  z46 := Try.sizeOf63
  v46 := Try.zeroValue63
  t50 := Try.underlying67
  a50 := Try.isAgg67
  z50 := Try.sizeOf67
  v50 := Try.zeroValue67
  t53 := Try.underlying70
  a53 := Try.isAgg70
  z53 := Try.sizeOf70
  v53 := Try.zeroValue70
  t55 := Try.underlying72
  a55 := Try.isAgg72
  z55 := Try.sizeOf72
  v55 := Try.zeroValue72
  t66 := Try.underlying73
  a66 := Try.isAgg73
  z66 := Try.sizeOf73
  v66 := Try.zeroValue73
  t70 := Try.underlying77
  a70 := Try.isAgg77
  z70 := Try.sizeOf77
  v70 := Try.zeroValue77
  t76 := Try.underlying79
  a76 := Try.isAgg79
  z76 := Try.sizeOf79
  v76 := Try.zeroValue79
  t77 := Try.underlying80
  a77 := Try.isAgg80
  z77 := Try.sizeOf80
  v77 := Try.zeroValue80
end Go.Proofs.Ytbammppeneoffaa
