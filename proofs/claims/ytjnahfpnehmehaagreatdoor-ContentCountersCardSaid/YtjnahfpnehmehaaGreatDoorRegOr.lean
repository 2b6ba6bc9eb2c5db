/- The registry of the own styles: what or and May leave at each name. -/
import Derived.Test.YtjnahfpnehmehaaGreatDoorRegMemo
import Derived.Test.YtjnahfpnehmehaaGreatDoorAeH
namespace Go.Proofs.Tz
open Go Go.AE Go.Proofs
set_option maxRecDepth 100000
/-- The state behind registry.New(nil). -/
noncomputable def sN (e : TypeId) : St := addS mNew (stG e)
/-- (*fleuron/registry.Registry).or [r:0, s:decimal] (function 55) -/
noncomputable def mOr0 : Memo := ⟨.agg [.str [100, 101, 99, 105, 109, 97, 108], .str [110, 117, 109, 101, 114, 105, 99], .int .i64 1, .slc 530 0 10 none, .nils, .str [45], .str [], .str [], .str [46, 32], .bool true, .nils, .int .i64 0, .str [], .str [100, 101, 99, 105, 109, 97, 108], .str [], .int .i64 0], 532, [(530, .cells ⟨9, 1, setEls .nil 0 [[.str [48]], [.str [49]], [.str [50]], [.str [51]], [.str [52]], [.str [53]], [.str [54]], [.str [55]], [.str [56]], [.str [57]]], 10, 10, (.opn 530)⟩)], [(530, ⟨530, 530, 0⟩)]⟩
/-- fleuron/system.May [r:1] (function 70) -/
noncomputable def mMay0 : Memo := ⟨.bool true, 536, [], []⟩
/-- (*fleuron/registry.Registry).or [r:0, s:decimal-leading-zero] (function 55) -/
noncomputable def mOr1 : Memo := ⟨.agg [.str [100, 101, 99, 105, 109, 97, 108, 45, 108, 101, 97, 100, 105, 110, 103, 45, 122, 101, 114, 111], .str [110, 117, 109, 101, 114, 105, 99], .int .i64 1, .slc 556 0 10 none, .nils, .str [45], .str [], .str [], .str [46, 32], .bool true, .nils, .int .i64 2, .str [48], .str [100, 101, 99, 105, 109, 97, 108], .str [], .int .i64 0], 558, [(556, .cells ⟨9, 1, setEls .nil 0 [[.str [48]], [.str [49]], [.str [50]], [.str [51]], [.str [52]], [.str [53]], [.str [54]], [.str [55]], [.str [56]], [.str [57]]], 10, 10, (.opn 556)⟩)], [(556, ⟨556, 556, 0⟩)]⟩
/-- fleuron/system.May [r:1] (function 70) -/
noncomputable def mMay1 : Memo := ⟨.bool true, 562, [], []⟩
/-- (*fleuron/registry.Registry).or [r:0, s:lower-alpha] (function 55) -/
noncomputable def mOr2 : Memo := ⟨.agg [.str [108, 111, 119, 101, 114, 45, 97, 108, 112, 104, 97], .str [97, 108, 112, 104, 97, 98, 101, 116, 105, 99], .int .i64 1, .slc 538 0 26 none, .nils, .str [45], .str [], .str [], .str [46, 32], .bool true, .nils, .int .i64 0, .str [], .str [100, 101, 99, 105, 109, 97, 108], .str [], .int .i64 0], 540, [(538, .cells ⟨9, 1, setEls .nil 0 [[.str [97]], [.str [98]], [.str [99]], [.str [100]], [.str [101]], [.str [102]], [.str [103]], [.str [104]], [.str [105]], [.str [106]], [.str [107]], [.str [108]], [.str [109]], [.str [110]], [.str [111]], [.str [112]], [.str [113]], [.str [114]], [.str [115]], [.str [116]], [.str [117]], [.str [118]], [.str [119]], [.str [120]], [.str [121]], [.str [122]]], 26, 26, (.opn 538)⟩)], [(538, ⟨538, 538, 0⟩)]⟩
/-- fleuron/system.May [r:1] (function 70) -/
noncomputable def mMay2 : Memo := ⟨.bool true, 544, [], []⟩
/-- (*fleuron/registry.Registry).or [r:0, s:upper-alpha] (function 55) -/
noncomputable def mOr3 : Memo := ⟨.agg [.str [117, 112, 112, 101, 114, 45, 97, 108, 112, 104, 97], .str [97, 108, 112, 104, 97, 98, 101, 116, 105, 99], .int .i64 1, .slc 538 0 26 none, .nils, .str [45], .str [], .str [], .str [46, 32], .bool true, .nils, .int .i64 0, .str [], .str [100, 101, 99, 105, 109, 97, 108], .str [], .int .i64 0], 540, [(538, .cells ⟨9, 1, setEls .nil 0 [[.str [65]], [.str [66]], [.str [67]], [.str [68]], [.str [69]], [.str [70]], [.str [71]], [.str [72]], [.str [73]], [.str [74]], [.str [75]], [.str [76]], [.str [77]], [.str [78]], [.str [79]], [.str [80]], [.str [81]], [.str [82]], [.str [83]], [.str [84]], [.str [85]], [.str [86]], [.str [87]], [.str [88]], [.str [89]], [.str [90]]], 26, 26, (.opn 538)⟩)], [(538, ⟨538, 538, 0⟩)]⟩
/-- fleuron/system.May [r:1] (function 70) -/
noncomputable def mMay3 : Memo := ⟨.bool true, 544, [], []⟩
/-- (*fleuron/registry.Registry).or [r:0, s:lower-roman] (function 55) -/
noncomputable def mOr4 : Memo := ⟨.agg [.str [108, 111, 119, 101, 114, 45, 114, 111, 109, 97, 110], .str [97, 100, 100, 105, 116, 105, 118, 101], .int .i64 1, .slc 538 0 13 none, .slc 540 0 13 none, .str [45], .str [], .str [], .str [46, 32], .bool false, .slc 542 0 1 none, .int .i64 0, .str [], .str [100, 101, 99, 105, 109, 97, 108], .str [], .int .i64 0], 544, [(538, .cells ⟨9, 1, setEls .nil 0 [[.str [109]], [.str [99, 109]], [.str [100]], [.str [99, 100]], [.str [99]], [.str [120, 99]], [.str [108]], [.str [120, 108]], [.str [120]], [.str [105, 120]], [.str [118]], [.str [105, 118]], [.str [105]]], 13, 13, (.opn 538)⟩), (540, .cells ⟨3, 1, setEls .nil 0 [[.int .i64 1000], [.int .i64 900], [.int .i64 500], [.int .i64 400], [.int .i64 100], [.int .i64 90], [.int .i64 50], [.int .i64 40], [.int .i64 10], [.int .i64 9], [.int .i64 5], [.int .i64 4], [.int .i64 1]], 13, 13, (.opn 540)⟩), (542, .cells ⟨81, 2, setEls .nil 0 [[.int .i64 1, .int .i64 3999]], 1, 1, (.opn 542)⟩)], [(538, ⟨538, 538, 0⟩), (540, ⟨540, 540, 0⟩), (542, ⟨542, 542, 0⟩)]⟩
/-- fleuron/system.May [r:1] (function 70) -/
noncomputable def mMay4 : Memo := ⟨.bool true, 549, [], []⟩
/-- (*fleuron/registry.Registry).or [r:0, s:upper-roman] (function 55) -/
noncomputable def mOr5 : Memo := ⟨.agg [.str [117, 112, 112, 101, 114, 45, 114, 111, 109, 97, 110], .str [97, 100, 100, 105, 116, 105, 118, 101], .int .i64 1, .slc 538 0 13 none, .slc 540 0 13 none, .str [45], .str [], .str [], .str [46, 32], .bool false, .slc 542 0 1 none, .int .i64 0, .str [], .str [100, 101, 99, 105, 109, 97, 108], .str [], .int .i64 0], 544, [(538, .cells ⟨9, 1, setEls .nil 0 [[.str [77]], [.str [67, 77]], [.str [68]], [.str [67, 68]], [.str [67]], [.str [88, 67]], [.str [76]], [.str [88, 76]], [.str [88]], [.str [73, 88]], [.str [86]], [.str [73, 86]], [.str [73]]], 13, 13, (.opn 538)⟩), (540, .cells ⟨3, 1, setEls .nil 0 [[.int .i64 1000], [.int .i64 900], [.int .i64 500], [.int .i64 400], [.int .i64 100], [.int .i64 90], [.int .i64 50], [.int .i64 40], [.int .i64 10], [.int .i64 9], [.int .i64 5], [.int .i64 4], [.int .i64 1]], 13, 13, (.opn 540)⟩), (542, .cells ⟨81, 2, setEls .nil 0 [[.int .i64 1, .int .i64 3999]], 1, 1, (.opn 542)⟩)], [(538, ⟨538, 538, 0⟩), (540, ⟨540, 540, 0⟩), (542, ⟨542, 542, 0⟩)]⟩
/-- fleuron/system.May [r:1] (function 70) -/
noncomputable def mMay5 : Memo := ⟨.bool true, 549, [], []⟩
/-- (*fleuron/registry.Registry).or [r:0, s:lower-greek] (function 55) -/
noncomputable def mOr6 : Memo := ⟨.agg [.str [108, 111, 119, 101, 114, 45, 103, 114, 101, 101, 107], .str [97, 108, 112, 104, 97, 98, 101, 116, 105, 99], .int .i64 1, .slc 538 0 24 none, .nils, .str [45], .str [], .str [], .str [46, 32], .bool true, .nils, .int .i64 0, .str [], .str [100, 101, 99, 105, 109, 97, 108], .str [], .int .i64 0], 540, [(538, .cells ⟨9, 1, setEls .nil 0 [[.str [206, 177]], [.str [206, 178]], [.str [206, 179]], [.str [206, 180]], [.str [206, 181]], [.str [206, 182]], [.str [206, 183]], [.str [206, 184]], [.str [206, 185]], [.str [206, 186]], [.str [206, 187]], [.str [206, 188]], [.str [206, 189]], [.str [206, 190]], [.str [206, 191]], [.str [207, 128]], [.str [207, 129]], [.str [207, 131]], [.str [207, 132]], [.str [207, 133]], [.str [207, 134]], [.str [207, 135]], [.str [207, 136]], [.str [207, 137]]], 24, 24, (.opn 538)⟩)], [(538, ⟨538, 538, 0⟩)]⟩
/-- fleuron/system.May [r:1] (function 70) -/
noncomputable def mMay6 : Memo := ⟨.bool true, 544, [], []⟩
/-- (*fleuron/registry.Registry).or [r:0, s:disc] (function 55) -/
noncomputable def mOr7 : Memo := ⟨.agg [.str [100, 105, 115, 99], .str [99, 121, 99, 108, 105, 99], .int .i64 1, .slc 524 0 1 none, .nils, .str [45], .str [], .str [], .str [32], .bool true, .nils, .int .i64 0, .str [], .str [100, 101, 99, 105, 109, 97, 108], .str [], .int .i64 0], 526, [(524, .cells ⟨9, 1, setEls .nil 0 [[.str [226, 128, 162]]], 1, 1, (.opn 524)⟩)], [(524, ⟨524, 524, 0⟩)]⟩
/-- fleuron/system.May [r:1] (function 70) -/
noncomputable def mMay7 : Memo := ⟨.bool true, 530, [], []⟩
/-- (*fleuron/registry.Registry).or [r:0, s:circle] (function 55) -/
noncomputable def mOr8 : Memo := ⟨.agg [.str [99, 105, 114, 99, 108, 101], .str [99, 121, 99, 108, 105, 99], .int .i64 1, .slc 528 0 1 none, .nils, .str [45], .str [], .str [], .str [32], .bool true, .nils, .int .i64 0, .str [], .str [100, 101, 99, 105, 109, 97, 108], .str [], .int .i64 0], 530, [(528, .cells ⟨9, 1, setEls .nil 0 [[.str [226, 151, 166]]], 1, 1, (.opn 528)⟩)], [(528, ⟨528, 528, 0⟩)]⟩
/-- fleuron/system.May [r:1] (function 70) -/
noncomputable def mMay8 : Memo := ⟨.bool true, 534, [], []⟩
/-- (*fleuron/registry.Registry).or [r:0, s:square] (function 55) -/
noncomputable def mOr9 : Memo := ⟨.agg [.str [115, 113, 117, 97, 114, 101], .str [99, 121, 99, 108, 105, 99], .int .i64 1, .slc 528 0 1 none, .nils, .str [45], .str [], .str [], .str [32], .bool true, .nils, .int .i64 0, .str [], .str [100, 101, 99, 105, 109, 97, 108], .str [], .int .i64 0], 530, [(528, .cells ⟨9, 1, setEls .nil 0 [[.str [226, 150, 170]]], 1, 1, (.opn 528)⟩)], [(528, ⟨528, 528, 0⟩)]⟩
/-- fleuron/system.May [r:1] (function 70) -/
noncomputable def mMay9 : Memo := ⟨.bool true, 534, [], []⟩
/-- (*fleuron/registry.Registry).or [r:0, s:UPPER-roman] (function 55) -/
noncomputable def mOr10 : Memo := ⟨.agg [.str [117, 112, 112, 101, 114, 45, 114, 111, 109, 97, 110], .str [97, 100, 100, 105, 116, 105, 118, 101], .int .i64 1, .slc 538 0 13 none, .slc 540 0 13 none, .str [45], .str [], .str [], .str [46, 32], .bool false, .slc 542 0 1 none, .int .i64 0, .str [], .str [100, 101, 99, 105, 109, 97, 108], .str [], .int .i64 0], 544, [(538, .cells ⟨9, 1, setEls .nil 0 [[.str [77]], [.str [67, 77]], [.str [68]], [.str [67, 68]], [.str [67]], [.str [88, 67]], [.str [76]], [.str [88, 76]], [.str [88]], [.str [73, 88]], [.str [86]], [.str [73, 86]], [.str [73]]], 13, 13, (.opn 538)⟩), (540, .cells ⟨3, 1, setEls .nil 0 [[.int .i64 1000], [.int .i64 900], [.int .i64 500], [.int .i64 400], [.int .i64 100], [.int .i64 90], [.int .i64 50], [.int .i64 40], [.int .i64 10], [.int .i64 9], [.int .i64 5], [.int .i64 4], [.int .i64 1]], 13, 13, (.opn 540)⟩), (542, .cells ⟨81, 2, setEls .nil 0 [[.int .i64 1, .int .i64 3999]], 1, 1, (.opn 542)⟩)], [(538, ⟨538, 538, 0⟩), (540, ⟨540, 540, 0⟩), (542, ⟨542, 542, 0⟩)]⟩
/-- fleuron/system.May [r:1] (function 70) -/
noncomputable def mMay10 : Memo := ⟨.bool true, 549, [], []⟩
/-- (*fleuron/registry.Registry).or [r:0, s:none] (function 55) -/
noncomputable def mOr11 : Memo := ⟨.agg [.str [100, 101, 99, 105, 109, 97, 108], .str [110, 117, 109, 101, 114, 105, 99], .int .i64 1, .slc 567 0 10 none, .nils, .str [45], .str [], .str [], .str [46, 32], .bool true, .nils, .int .i64 0, .str [], .str [100, 101, 99, 105, 109, 97, 108], .str [], .int .i64 0], 568, [(567, .cells ⟨9, 1, setEls .nil 0 [[.str [48]], [.str [49]], [.str [50]], [.str [51]], [.str [52]], [.str [53]], [.str [54]], [.str [55]], [.str [56]], [.str [57]]], 10, 10, (.opn 567)⟩)], [(567, ⟨567, 567, 0⟩)]⟩
/-- fleuron/system.May [r:1] (function 70) -/
noncomputable def mMay11 : Memo := ⟨.bool true, 572, [], []⟩
end Go.Proofs.Tz
