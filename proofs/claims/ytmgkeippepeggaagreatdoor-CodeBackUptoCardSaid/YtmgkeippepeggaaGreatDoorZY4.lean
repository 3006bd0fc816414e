/- The texts Tb, O1, D7, D8, I0, W1, W2, W3, O2, O3, I1, one behind the other. -/
import Derived.Test.YtmgkeippepeggaaGreatDoorZY3
import Derived.Test.YtmgkeippepeggaaGreatDoorProg
import Derived.KernelRfl
import Derived.Lib.AtoiTie
import Derived.Shelf.Bytes.SlIndexAt
import Derived.Lib.ItoaLen
import Derived.Lib.AtoiBound
set_option linter.unusedVariables false
set_option linter.unusedSimpArgs false
namespace Go.Proofs.YtmgkeippepeggaaGreatDoor
open Go Go.SL
theorem ti0 : TI Tryz.prog 0 (.tuple #[]) 1 0 := ti_of (by kernel_rfl)
theorem ti1 : TI Tryz.prog 1 (.nilFunc) 1 8 := ti_of (by kernel_rfl)
theorem ti2 : TI Tryz.prog 2 (.int .i64 0) 1 8 := ti_of (by kernel_rfl)
theorem ti3 : TI Tryz.prog 3 (.int .i64 0) 1 8 := ti_of (by kernel_rfl)
theorem ti4 : TI Tryz.prog 4 (.bool false) 1 1 := ti_of (by kernel_rfl)
theorem ti5 : TI Tryz.prog 5 (.int .u8 0) 1 1 := ti_of (by kernel_rfl)
theorem ti6 : TI Tryz.prog 6 (.int .u8 0) 1 1 := ti_of (by kernel_rfl)
theorem ti7 : TI Tryz.prog 7 (.agg #[.int .i64 0, .int .i64 0, .bool false, .int .u8 0]) 4 24 := ti_of (by kernel_rfl)
theorem ti8 : TI Tryz.prog 8 (.agg #[.int .i64 0, .int .i64 0, .bool false, .int .u8 0]) 4 24 := ti_of (by kernel_rfl)
theorem ti9 : TI Tryz.prog 9 (.string ⟨#[]⟩) 1 16 := ti_of (by kernel_rfl)
theorem ti10 : TI Tryz.prog 10 (.string ⟨#[]⟩) 1 16 := ti_of (by kernel_rfl)
theorem ti11 : TI Tryz.prog 11 (.string ⟨#[]⟩) 1 16 := ti_of (by kernel_rfl)
theorem ti12 : TI Tryz.prog 12 (.int .u64 0) 1 8 := ti_of (by kernel_rfl)
theorem ti13 : TI Tryz.prog 13 (.agg #[.string ⟨#[]⟩, .int .u64 0]) 2 24 := ti_of (by kernel_rfl)
theorem ti14 : TI Tryz.prog 14 (.agg #[.string ⟨#[]⟩, .int .u64 0]) 2 24 := ti_of (by kernel_rfl)
theorem ti15 : TI Tryz.prog 15 (.pointer none) 1 8 := ti_of (by kernel_rfl)
theorem ti16 : TI Tryz.prog 16 (.pointer none) 1 8 := ti_of (by kernel_rfl)
theorem ti17 : TI Tryz.prog 17 (.pointer none) 1 8 := ti_of (by kernel_rfl)
theorem ti18 : TI Tryz.prog 18 (.agg #[.pointer none]) 1 8 := ti_of (by kernel_rfl)
theorem ti19 : TI Tryz.prog 19 (.agg #[.pointer none]) 1 8 := ti_of (by kernel_rfl)
theorem ti20 : TI Tryz.prog 20 (.nilIface) 1 16 := ti_of (by kernel_rfl)
theorem ti21 : TI Tryz.prog 21 (.int .i32 0) 1 4 := ti_of (by kernel_rfl)
theorem ti22 : TI Tryz.prog 22 (.slice none 0 0) 1 24 := ti_of (by kernel_rfl)
theorem ti23 : TI Tryz.prog 23 (.nilFunc) 1 8 := ti_of (by kernel_rfl)
theorem ti24 : TI Tryz.prog 24 (.nilFunc) 1 8 := ti_of (by kernel_rfl)
theorem ti25 : TI Tryz.prog 25 (.slice none 0 0) 1 24 := ti_of (by kernel_rfl)
theorem ti26 : TI Tryz.prog 26 (.agg #[.slice none 0 0]) 1 24 := ti_of (by kernel_rfl)
theorem ti27 : TI Tryz.prog 27 (.agg #[.slice none 0 0]) 1 24 := ti_of (by kernel_rfl)
theorem ti28 : TI Tryz.prog 28 (.slice none 0 0) 1 24 := ti_of (by kernel_rfl)
theorem ti29 : TI Tryz.prog 29 (.agg #[.int .i64 0, .string ⟨#[]⟩, .string ⟨#[]⟩, .int .i64 0, .slice none 0 0, .slice none 0 0]) 6 96 := ti_of (by kernel_rfl)
theorem ti30 : TI Tryz.prog 30 (.agg #[.int .i64 0, .string ⟨#[]⟩, .string ⟨#[]⟩, .int .i64 0, .slice none 0 0, .slice none 0 0]) 6 96 := ti_of (by kernel_rfl)
theorem ti31 : TI Tryz.prog 31 (.slice none 0 0) 1 24 := ti_of (by kernel_rfl)
theorem ti32 : TI Tryz.prog 32 (.slice none 0 0) 1 24 := ti_of (by kernel_rfl)
theorem ti33 : TI Tryz.prog 33 (.agg #[.int .i64 0, .string ⟨#[]⟩, .slice none 0 0, .slice none 0 0]) 4 72 := ti_of (by kernel_rfl)
theorem ti34 : TI Tryz.prog 34 (.agg #[.int .i64 0, .string ⟨#[]⟩, .slice none 0 0, .slice none 0 0]) 4 72 := ti_of (by kernel_rfl)
theorem ti35 : TI Tryz.prog 35 (.agg #[.int .i64 0, .int .i64 0, .string ⟨#[]⟩, .slice none 0 0, .int .i64 0, .string ⟨#[]⟩, .string ⟨#[]⟩, .int .i64 0, .slice none 0 0, .slice none 0 0, .slice none 0 0, .int .i64 0, .string ⟨#[]⟩, .slice none 0 0, .slice none 0 0]) 15 248 := ti_of (by kernel_rfl)
theorem ti36 : TI Tryz.prog 36 (.agg #[.int .i64 0, .int .i64 0, .string ⟨#[]⟩, .slice none 0 0, .int .i64 0, .string ⟨#[]⟩, .string ⟨#[]⟩, .int .i64 0, .slice none 0 0, .slice none 0 0, .slice none 0 0, .int .i64 0, .string ⟨#[]⟩, .slice none 0 0, .slice none 0 0]) 15 248 := ti_of (by kernel_rfl)
theorem ti37 : TI Tryz.prog 37 (.nilFunc) 1 8 := ti_of (by kernel_rfl)
theorem ti38 : TI Tryz.prog 38 (.pointer none) 1 8 := ti_of (by kernel_rfl)
theorem ti39 : TI Tryz.prog 39 (.nilFunc) 1 8 := ti_of (by kernel_rfl)
theorem ti40 : TI Tryz.prog 40 (.pointer none) 1 8 := ti_of (by kernel_rfl)
theorem ti41 : TI Tryz.prog 41 (.nilFunc) 1 8 := ti_of (by kernel_rfl)
theorem ti42 : TI Tryz.prog 42 (.nilFunc) 1 8 := ti_of (by kernel_rfl)
theorem ti43 : TI Tryz.prog 43 (.nilFunc) 1 8 := ti_of (by kernel_rfl)
theorem ti44 : TI Tryz.prog 44 (.nilFunc) 1 8 := ti_of (by kernel_rfl)
theorem ti45 : TI Tryz.prog 45 (.nilFunc) 1 8 := ti_of (by kernel_rfl)
theorem ti46 : TI Tryz.prog 46 (.slice none 0 0) 1 24 := ti_of (by kernel_rfl)
theorem ti47 : TI Tryz.prog 47 (.agg #[.string ⟨#[]⟩, .int .i64 0, .bool false]) 3 32 := ti_of (by kernel_rfl)
theorem ti48 : TI Tryz.prog 48 (.agg #[.string ⟨#[]⟩, .int .i64 0, .bool false]) 3 32 := ti_of (by kernel_rfl)
theorem ti49 : TI Tryz.prog 49 (.agg #[.int .i64 0, .int .i64 0, .int .i64 0]) 3 24 := ti_of (by kernel_rfl)
theorem ti50 : TI Tryz.prog 50 (.agg #[.int .i64 0, .int .i64 0, .int .i64 0]) 3 24 := ti_of (by kernel_rfl)
theorem ti51 : TI Tryz.prog 51 (.tuple #[.agg #[.string ⟨#[]⟩, .int .i64 0, .bool false], .bool false]) 1 0 := ti_of (by kernel_rfl)
theorem ti52 : TI Tryz.prog 52 (.nilFunc) 1 8 := ti_of (by kernel_rfl)
theorem ti53 : TI Tryz.prog 53 (.nilFunc) 1 8 := ti_of (by kernel_rfl)
theorem ti54 : TI Tryz.prog 54 (.nilFunc) 1 8 := ti_of (by kernel_rfl)
theorem ti55 : TI Tryz.prog 55 (.nilFunc) 1 8 := ti_of (by kernel_rfl)
theorem ti56 : TI Tryz.prog 56 (.nilFunc) 1 8 := ti_of (by kernel_rfl)
theorem ti57 : TI Tryz.prog 57 (.nilFunc) 1 8 := ti_of (by kernel_rfl)
theorem ti58 : TI Tryz.prog 58 (.agg #[.int .i64 0, .string ⟨#[]⟩, .string ⟨#[]⟩, .int .i64 0, .slice none 0 0, .slice none 0 0]) 6 96 := ti_of (by kernel_rfl)
theorem ti59 : TI Tryz.prog 59 (.nilFunc) 1 8 := ti_of (by kernel_rfl)
theorem ti60 : TI Tryz.prog 60 (.nilFunc) 1 8 := ti_of (by kernel_rfl)
theorem ti61 : TI Tryz.prog 61 (.nilFunc) 1 8 := ti_of (by kernel_rfl)
theorem ti62 : TI Tryz.prog 62 (.slice none 0 0) 1 24 := ti_of (by kernel_rfl)
theorem ti63 : TI Tryz.prog 63 (.nilFunc) 1 8 := ti_of (by kernel_rfl)
theorem ti64 : TI Tryz.prog 64 (.nilFunc) 1 8 := ti_of (by kernel_rfl)
theorem ti65 : TI Tryz.prog 65 (.nilFunc) 1 8 := ti_of (by kernel_rfl)
theorem ti66 : TI Tryz.prog 66 (.agg #[.int .i64 0, .string ⟨#[]⟩, .slice none 0 0, .slice none 0 0]) 4 72 := ti_of (by kernel_rfl)
theorem ti67 : TI Tryz.prog 67 (.agg #[.int .i64 0, .string ⟨#[]⟩, .slice none 0 0, .slice none 0 0]) 4 72 := ti_of (by kernel_rfl)
theorem ti68 : TI Tryz.prog 68 (.nilFunc) 1 8 := ti_of (by kernel_rfl)
theorem ti69 : TI Tryz.prog 69 (.nilFunc) 1 8 := ti_of (by kernel_rfl)
theorem ti70 : TI Tryz.prog 70 (.nilFunc) 1 8 := ti_of (by kernel_rfl)
theorem ti71 : TI Tryz.prog 71 (.nilFunc) 1 8 := ti_of (by kernel_rfl)
theorem ti72 : TI Tryz.prog 72 (.nilFunc) 1 8 := ti_of (by kernel_rfl)
theorem ti73 : TI Tryz.prog 73 (.nilFunc) 1 8 := ti_of (by kernel_rfl)
theorem ti74 : TI Tryz.prog 74 (.nilFunc) 1 8 := ti_of (by kernel_rfl)
theorem ti75 : TI Tryz.prog 75 (.nilFunc) 1 8 := ti_of (by kernel_rfl)
theorem ti76 : TI Tryz.prog 76 (.nilFunc) 1 8 := ti_of (by kernel_rfl)
theorem ti77 : TI Tryz.prog 77 (.nilFunc) 1 8 := ti_of (by kernel_rfl)
theorem ti78 : TI Tryz.prog 78 (.nilFunc) 1 8 := ti_of (by kernel_rfl)
theorem ti79 : TI Tryz.prog 79 (.nilFunc) 1 8 := ti_of (by kernel_rfl)
theorem ti80 : TI Tryz.prog 80 (.nilFunc) 1 8 := ti_of (by kernel_rfl)
theorem ti81 : TI Tryz.prog 81 (.slice none 0 0) 1 24 := ti_of (by kernel_rfl)
theorem ti82 : TI Tryz.prog 82 (.nilFunc) 1 8 := ti_of (by kernel_rfl)
theorem ti83 : TI Tryz.prog 83 (.nilFunc) 1 8 := ti_of (by kernel_rfl)
theorem ti84 : TI Tryz.prog 84 (.nilFunc) 1 8 := ti_of (by kernel_rfl)
theorem ti85 : TI Tryz.prog 85 (.nilFunc) 1 8 := ti_of (by kernel_rfl)
theorem ti86 : TI Tryz.prog 86 (.nilFunc) 1 8 := ti_of (by kernel_rfl)
theorem ti87 : TI Tryz.prog 87 (.nilFunc) 1 8 := ti_of (by kernel_rfl)
theorem ti88 : TI Tryz.prog 88 (.nilFunc) 1 8 := ti_of (by kernel_rfl)
theorem ti89 : TI Tryz.prog 89 (.nilFunc) 1 8 := ti_of (by kernel_rfl)
theorem ti90 : TI Tryz.prog 90 (.nilFunc) 1 8 := ti_of (by kernel_rfl)
theorem ti91 : TI Tryz.prog 91 (.agg #[.slice none 0 0, .bool false]) 2 32 := ti_of (by kernel_rfl)
theorem ti92 : TI Tryz.prog 92 (.agg #[.slice none 0 0, .bool false]) 2 32 := ti_of (by kernel_rfl)
theorem ti93 : TI Tryz.prog 93 (.tuple #[.int .i64 0, .int .i64 0]) 1 0 := ti_of (by kernel_rfl)
theorem ti94 : TI Tryz.prog 94 (.nilFunc) 1 8 := ti_of (by kernel_rfl)
theorem ti95 : TI Tryz.prog 95 (.nilFunc) 1 8 := ti_of (by kernel_rfl)
theorem ti96 : TI Tryz.prog 96 (.nilFunc) 1 8 := ti_of (by kernel_rfl)
theorem ti97 : TI Tryz.prog 97 (.nilFunc) 1 8 := ti_of (by kernel_rfl)
theorem ti98 : TI Tryz.prog 98 (.nilFunc) 1 8 := ti_of (by kernel_rfl)
theorem ti99 : TI Tryz.prog 99 (.nilFunc) 1 8 := ti_of (by kernel_rfl)
theorem ti100 : TI Tryz.prog 100 (.tuple #[.agg #[.string ⟨#[]⟩, .int .i64 0, .bool false], .int .i64 0]) 1 0 := ti_of (by kernel_rfl)
theorem ti101 : TI Tryz.prog 101 (.nilFunc) 1 8 := ti_of (by kernel_rfl)
theorem ti102 : TI Tryz.prog 102 (.nilFunc) 1 8 := ti_of (by kernel_rfl)
theorem ti103 : TI Tryz.prog 103 (.tuple #[.agg #[.string ⟨#[]⟩, .int .i64 0, .bool false], .string ⟨#[]⟩]) 1 0 := ti_of (by kernel_rfl)
theorem ti104 : TI Tryz.prog 104 (.nilFunc) 1 8 := ti_of (by kernel_rfl)
theorem ti105 : TI Tryz.prog 105 (.tuple #[.agg #[.string ⟨#[]⟩, .int .i64 0, .bool false], .slice none 0 0]) 1 0 := ti_of (by kernel_rfl)
theorem ti106 : TI Tryz.prog 106 (.nilFunc) 1 8 := ti_of (by kernel_rfl)
theorem ti107 : TI Tryz.prog 107 (.tuple #[.agg #[.string ⟨#[]⟩, .int .i64 0, .bool false], .agg #[.int .i64 0, .string ⟨#[]⟩, .string ⟨#[]⟩, .int .i64 0, .slice none 0 0, .slice none 0 0]]) 1 0 := ti_of (by kernel_rfl)
theorem ti108 : TI Tryz.prog 108 (.nilFunc) 1 8 := ti_of (by kernel_rfl)
theorem ti109 : TI Tryz.prog 109 (.tuple #[.agg #[.string ⟨#[]⟩, .int .i64 0, .bool false], .slice none 0 0]) 1 0 := ti_of (by kernel_rfl)
theorem ti110 : TI Tryz.prog 110 (.nilFunc) 1 8 := ti_of (by kernel_rfl)
theorem ti111 : TI Tryz.prog 111 (.tuple #[.agg #[.string ⟨#[]⟩, .int .i64 0, .bool false], .agg #[.int .i64 0, .string ⟨#[]⟩, .slice none 0 0, .slice none 0 0]]) 1 0 := ti_of (by kernel_rfl)
theorem ti112 : TI Tryz.prog 112 (.nilFunc) 1 8 := ti_of (by kernel_rfl)
theorem ti113 : TI Tryz.prog 113 (.nilFunc) 1 8 := ti_of (by kernel_rfl)
theorem ti114 : TI Tryz.prog 114 (.nilFunc) 1 8 := ti_of (by kernel_rfl)
theorem ti115 : TI Tryz.prog 115 (.nilFunc) 1 8 := ti_of (by kernel_rfl)
theorem ti116 : TI Tryz.prog 116 (.nilFunc) 1 8 := ti_of (by kernel_rfl)
theorem ti117 : TI Tryz.prog 117 (.nilFunc) 1 8 := ti_of (by kernel_rfl)
theorem ti118 : TI Tryz.prog 118 (.nilFunc) 1 8 := ti_of (by kernel_rfl)
theorem ti119 : TI Tryz.prog 119 (.nilFunc) 1 8 := ti_of (by kernel_rfl)
theorem ti120 : TI Tryz.prog 120 (.nilFunc) 1 8 := ti_of (by kernel_rfl)
theorem ti121 : TI Tryz.prog 121 (.nilFunc) 1 8 := ti_of (by kernel_rfl)
theorem ti122 : TI Tryz.prog 122 (.nilFunc) 1 8 := ti_of (by kernel_rfl)
theorem ti123 : TI Tryz.prog 123 (.nilFunc) 1 8 := ti_of (by kernel_rfl)
theorem ti124 : TI Tryz.prog 124 (.nilFunc) 1 8 := ti_of (by kernel_rfl)
theorem ti125 : TI Tryz.prog 125 (.nilFunc) 1 8 := ti_of (by kernel_rfl)
theorem ti126 : TI Tryz.prog 126 (.nilFunc) 1 8 := ti_of (by kernel_rfl)
theorem ti127 : TI Tryz.prog 127 (.nilFunc) 1 8 := ti_of (by kernel_rfl)
theorem ti128 : TI Tryz.prog 128 (.nilIface) 1 16 := ti_of (by kernel_rfl)
theorem ti129 : TI Tryz.prog 129 (.nilIface) 1 16 := ti_of (by kernel_rfl)
theorem ti130 : TI Tryz.prog 130 (.tuple #[.int .i64 0, .nilIface]) 1 0 := ti_of (by kernel_rfl)
theorem ti131 : TI Tryz.prog 131 (.nilFunc) 1 8 := ti_of (by kernel_rfl)
theorem ti132 : TI Tryz.prog 132 (.nilFunc) 1 8 := ti_of (by kernel_rfl)
theorem ti133 : TI Tryz.prog 133 (.nilFunc) 1 8 := ti_of (by kernel_rfl)
theorem ti134 : TI Tryz.prog 134 (.tuple #[.int .i64 0, .int .i64 0, .bool false]) 1 0 := ti_of (by kernel_rfl)
theorem ti135 : TI Tryz.prog 135 (.nilFunc) 1 8 := ti_of (by kernel_rfl)
theorem ti136 : TI Tryz.prog 136 (.nilFunc) 1 8 := ti_of (by kernel_rfl)
theorem ti137 : TI Tryz.prog 137 (.nilFunc) 1 8 := ti_of (by kernel_rfl)
theorem ti138 : TI Tryz.prog 138 (.nilFunc) 1 8 := ti_of (by kernel_rfl)
theorem ti139 : TI Tryz.prog 139 (.nilFunc) 1 8 := ti_of (by kernel_rfl)
theorem ti140 : TI Tryz.prog 140 (.nilFunc) 1 8 := ti_of (by kernel_rfl)
theorem ti141 : TI Tryz.prog 141 (.nilFunc) 1 8 := ti_of (by kernel_rfl)
theorem ti142 : TI Tryz.prog 142 (.nilFunc) 1 8 := ti_of (by kernel_rfl)
theorem ti143 : TI Tryz.prog 143 (.nilFunc) 1 8 := ti_of (by kernel_rfl)
theorem ti144 : TI Tryz.prog 144 (.nilFunc) 1 8 := ti_of (by kernel_rfl)
theorem ti145 : TI Tryz.prog 145 (.nilFunc) 1 8 := ti_of (by kernel_rfl)
theorem ti146 : TI Tryz.prog 146 (.nilFunc) 1 8 := ti_of (by kernel_rfl)
theorem ti147 : TI Tryz.prog 147 (.nilFunc) 1 8 := ti_of (by kernel_rfl)
theorem ti148 : TI Tryz.prog 148 (.nilFunc) 1 8 := ti_of (by kernel_rfl)
theorem ti149 : TI Tryz.prog 149 (.nilFunc) 1 8 := ti_of (by kernel_rfl)
theorem ti150 : TI Tryz.prog 150 (.nilFunc) 1 8 := ti_of (by kernel_rfl)
theorem ti151 : TI Tryz.prog 151 (.nilFunc) 1 8 := ti_of (by kernel_rfl)
theorem ti152 : TI Tryz.prog 152 (.nilFunc) 1 8 := ti_of (by kernel_rfl)
theorem ti153 : TI Tryz.prog 153 (.int .u64 0) 1 8 := ti_of (by kernel_rfl)
theorem ti154 : TI Tryz.prog 154 (.nilFunc) 1 8 := ti_of (by kernel_rfl)
theorem ti155 : TI Tryz.prog 155 (.int .i64 0) 1 8 := ti_of (by kernel_rfl)
theorem ti156 : TI Tryz.prog 156 (.tuple #[.int .i64 0, .nilIface]) 1 0 := ti_of (by kernel_rfl)
theorem ti157 : TI Tryz.prog 157 (.nilFunc) 1 8 := ti_of (by kernel_rfl)
theorem ti158 : TI Tryz.prog 158 (.pointer none) 1 8 := ti_of (by kernel_rfl)
theorem ti159 : TI Tryz.prog 159 (.nilFunc) 1 8 := ti_of (by kernel_rfl)
theorem ti160 : TI Tryz.prog 160 (.nilFunc) 1 8 := ti_of (by kernel_rfl)
theorem ti161 : TI Tryz.prog 161 (.nilFunc) 1 8 := ti_of (by kernel_rfl)
theorem ti162 : TI Tryz.prog 162 (.nilFunc) 1 8 := ti_of (by kernel_rfl)
theorem ti166 : TI Tryz.prog 166 (.nilFunc) 1 8 := ti_of (by kernel_rfl)
theorem ti167 : TI Tryz.prog 167 (.nilFunc) 1 8 := ti_of (by kernel_rfl)
theorem ti168 : TI Tryz.prog 168 (.pointer none) 1 8 := ti_of (by kernel_rfl)
theorem ti169 : TI Tryz.prog 169 (.nilFunc) 1 8 := ti_of (by kernel_rfl)
theorem ti170 : TI Tryz.prog 170 (.nilFunc) 1 8 := ti_of (by kernel_rfl)
theorem ti171 : TI Tryz.prog 171 (.nilFunc) 1 8 := ti_of (by kernel_rfl)
theorem ti172 : TI Tryz.prog 172 (.agg #[.int .u8 0, .int .u8 0, .int .u8 0, .int .u8 0, .int .u8 0, .int .u8 0, .int .u8 0, .int .u8 0, .int .u8 0, .int .u8 0, .int .u8 0, .int .u8 0, .int .u8 0, .int .u8 0, .int .u8 0, .int .u8 0, .int .u8 0, .int .u8 0, .int .u8 0, .int .u8 0, .int .u8 0, .int .u8 0, .int .u8 0, .int .u8 0]) 24 24 := ti_of (by kernel_rfl)
theorem ti173 : TI Tryz.prog 173 (.nilFunc) 1 8 := ti_of (by kernel_rfl)
theorem ti174 : TI Tryz.prog 174 (.nilFunc) 1 8 := ti_of (by kernel_rfl)
theorem ti175 : TI Tryz.prog 175 (.tuple #[.slice none 0 0, .string ⟨#[]⟩]) 1 0 := ti_of (by kernel_rfl)
theorem ti176 : TI Tryz.prog 176 (.nilFunc) 1 8 := ti_of (by kernel_rfl)
theorem ti177 : TI Tryz.prog 177 (.tuple #[.int .u64 0, .nilIface]) 1 0 := ti_of (by kernel_rfl)
theorem ti178 : TI Tryz.prog 178 (.nilFunc) 1 8 := ti_of (by kernel_rfl)
theorem ti179 : TI Tryz.prog 179 (.int .u64 0) 1 8 := ti_of (by kernel_rfl)
theorem ti180 : TI Tryz.prog 180 (.agg #[.string ⟨#[]⟩, .string ⟨#[]⟩, .nilIface]) 3 48 := ti_of (by kernel_rfl)
theorem ti181 : TI Tryz.prog 181 (.agg #[.string ⟨#[]⟩, .string ⟨#[]⟩, .nilIface]) 3 48 := ti_of (by kernel_rfl)
theorem ti182 : TI Tryz.prog 182 (.nilFunc) 1 8 := ti_of (by kernel_rfl)
theorem ti183 : TI Tryz.prog 183 (.nilFunc) 1 8 := ti_of (by kernel_rfl)
theorem ti184 : TI Tryz.prog 184 (.tuple #[.int .i32 0, .int .i64 0]) 1 0 := ti_of (by kernel_rfl)
theorem ti185 : TI Tryz.prog 185 (.nilFunc) 1 8 := ti_of (by kernel_rfl)
theorem ti186 : TI Tryz.prog 186 (.nilFunc) 1 8 := ti_of (by kernel_rfl)
theorem ti187 : TI Tryz.prog 187 (.nilFunc) 1 8 := ti_of (by kernel_rfl)
theorem ti188 : TI Tryz.prog 188 (.nilFunc) 1 8 := ti_of (by kernel_rfl)
theorem ti189 : TI Tryz.prog 189 (.agg #[.int .u64 0, .int .u64 0, .int .u64 0, .int .u64 0, .int .u64 0, .int .u64 0, .int .u64 0, .int .u64 0, .int .u64 0, .int .u64 0, .int .u64 0, .int .u64 0, .int .u64 0, .int .u64 0, .int .u64 0, .int .u64 0, .int .u64 0, .int .u64 0, .int .u64 0, .int .u64 0]) 20 160 := ti_of (by kernel_rfl)
theorem ti190 : TI Tryz.prog 190 (.int .u32 0) 1 4 := ti_of (by kernel_rfl)
theorem ti192 : TI Tryz.prog 192 (.nilFunc) 1 8 := ti_of (by kernel_rfl)
theorem ti193 : TI Tryz.prog 193 (.nilFunc) 1 8 := ti_of (by kernel_rfl)
theorem ti194 : TI Tryz.prog 194 (.pointer none) 1 8 := ti_of (by kernel_rfl)
theorem ti195 : TI Tryz.prog 195 (.pointer none) 1 8 := ti_of (by kernel_rfl)
theorem ti196 : TI Tryz.prog 196 (.agg #[.string ⟨#[]⟩]) 1 16 := ti_of (by kernel_rfl)
theorem ti197 : TI Tryz.prog 197 (.agg #[.string ⟨#[]⟩]) 1 16 := ti_of (by kernel_rfl)
theorem ti198 : TI Tryz.prog 198 (.nilFunc) 1 8 := ti_of (by kernel_rfl)
theorem ti199 : TI Tryz.prog 199 (.nilFunc) 1 8 := ti_of (by kernel_rfl)
theorem ti200 : TI Tryz.prog 200 (.nilFunc) 1 8 := ti_of (by kernel_rfl)
theorem ti202 : TI Tryz.prog 202 (.agg #[.int .u8 0, .int .u8 0]) 2 2 := ti_of (by kernel_rfl)
theorem ti203 : TI Tryz.prog 203 (.agg #[.int .u8 0, .int .u8 0]) 2 2 := ti_of (by kernel_rfl)
theorem ti204 : TI Tryz.prog 204 (.agg #[.int .u8 0, .int .u8 0, .int .u8 0, .int .u8 0, .int .u8 0, .int .u8 0, .int .u8 0, .int .u8 0, .int .u8 0, .int .u8 0, .int .u8 0, .int .u8 0, .int .u8 0, .int .u8 0, .int .u8 0, .int .u8 0, .int .u8 0, .int .u8 0, .int .u8 0, .int .u8 0, .int .u8 0, .int .u8 0, .int .u8 0, .int .u8 0, .int .u8 0, .int .u8 0, .int .u8 0, .int .u8 0, .int .u8 0, .int .u8 0, .int .u8 0, .int .u8 0]) 32 32 := ti_of (by kernel_rfl)
theorem ti205 : TI Tryz.prog 205 (.nilFunc) 1 8 := ti_of (by kernel_rfl)
theorem ti206 : TI Tryz.prog 206 (.tuple #[.int .u32 0, .int .u32 0]) 1 0 := ti_of (by kernel_rfl)
theorem ti207 : TI Tryz.prog 207 (.nilFunc) 1 8 := ti_of (by kernel_rfl)
theorem ti208 : TI Tryz.prog 208 (.agg #[.int .u8 0, .int .u8 0, .int .u8 0, .int .u8 0, .int .u8 0, .int .u8 0, .int .u8 0, .int .u8 0, .int .u8 0, .int .u8 0, .int .u8 0, .int .u8 0, .int .u8 0, .int .u8 0, .int .u8 0, .int .u8 0, .int .u8 0, .int .u8 0, .int .u8 0, .int .u8 0, .int .u8 0, .int .u8 0, .int .u8 0, .int .u8 0, .int .u8 0, .int .u8 0, .int .u8 0, .int .u8 0, .int .u8 0, .int .u8 0, .int .u8 0, .int .u8 0]) 32 32 := ti_of (by kernel_rfl)
theorem ti210 : TI Tryz.prog 210 (.agg #[.pointer none, .pointer none, .pointer none, .string ⟨#[]⟩]) 4 40 := ti_of (by kernel_rfl)
theorem ti211 : TI Tryz.prog 211 (.agg #[.pointer none, .pointer none, .pointer none, .string ⟨#[]⟩]) 4 40 := ti_of (by kernel_rfl)
theorem ti212 : TI Tryz.prog 212 (.agg #[]) 0 0 := ti_of (by kernel_rfl)
theorem ti213 : TI Tryz.prog 213 (.agg #[]) 0 0 := ti_of (by kernel_rfl)
theorem ti214 : TI Tryz.prog 214 (.agg #[]) 0 0 := ti_of (by kernel_rfl)
theorem ti215 : TI Tryz.prog 215 (.int .u8 0) 1 1 := ti_of (by kernel_rfl)
theorem ti216 : TI Tryz.prog 216 (.int .u8 0) 1 1 := ti_of (by kernel_rfl)
theorem ti217 : TI Tryz.prog 217 (.nilFunc) 1 8 := ti_of (by kernel_rfl)
theorem ti218 : TI Tryz.prog 218 (.int .i32 0) 1 4 := ti_of (by kernel_rfl)
theorem ti219 : TI Tryz.prog 219 (.int .i32 0) 1 4 := ti_of (by kernel_rfl)
theorem ti220 : TI Tryz.prog 220 (.agg #[.int .u64 0, .int .u64 0, .int .u32 0, .int .u8 0, .int .u8 0, .int .u8 0, .int .u8 0, .nilFunc, .pointer none, .int .i32 0, .int .i32 0]) 11 48 := ti_of (by kernel_rfl)
theorem ti221 : TI Tryz.prog 221 (.agg #[.int .u64 0, .int .u64 0, .int .u32 0, .int .u8 0, .int .u8 0, .int .u8 0, .int .u8 0, .nilFunc, .pointer none, .int .i32 0, .int .i32 0]) 11 48 := ti_of (by kernel_rfl)
theorem ti222 : TI Tryz.prog 222 (.pointer none) 1 8 := ti_of (by kernel_rfl)
theorem lone1 : Lone Tryz.prog 1 := lone_of Tryz.underlying1 rfl
theorem lone2 : Lone Tryz.prog 2 := lone_of Tryz.underlying2 rfl
theorem lone3 : Lone Tryz.prog 3 := lone_of Tryz.underlying3 rfl
theorem lone4 : Lone Tryz.prog 4 := lone_of Tryz.underlying4 rfl
theorem lone5 : Lone Tryz.prog 5 := lone_of Tryz.underlying5 rfl
theorem lone6 : Lone Tryz.prog 6 := lone_of Tryz.underlying6 rfl
theorem lone9 : Lone Tryz.prog 9 := lone_of Tryz.underlying9 rfl
theorem lone10 : Lone Tryz.prog 10 := lone_of Tryz.underlying10 rfl
theorem lone11 : Lone Tryz.prog 11 := lone_of Tryz.underlying11 rfl
theorem lone12 : Lone Tryz.prog 12 := lone_of Tryz.underlying12 rfl
theorem lone15 : Lone Tryz.prog 15 := lone_of Tryz.underlying15 rfl
theorem lone16 : Lone Tryz.prog 16 := lone_of Tryz.underlying16 rfl
theorem lone17 : Lone Tryz.prog 17 := lone_of Tryz.underlying17 rfl
theorem lone20 : Lone Tryz.prog 20 := lone_of Tryz.underlying20 rfl
theorem lone21 : Lone Tryz.prog 21 := lone_of Tryz.underlying21 rfl
theorem lone22 : Lone Tryz.prog 22 := lone_of Tryz.underlying22 rfl
theorem lone23 : Lone Tryz.prog 23 := lone_of Tryz.underlying23 rfl
theorem lone24 : Lone Tryz.prog 24 := lone_of Tryz.underlying24 rfl
theorem lone25 : Lone Tryz.prog 25 := lone_of Tryz.underlying25 rfl
theorem lone28 : Lone Tryz.prog 28 := lone_of Tryz.underlying28 rfl
theorem lone31 : Lone Tryz.prog 31 := lone_of Tryz.underlying31 rfl
theorem lone32 : Lone Tryz.prog 32 := lone_of Tryz.underlying32 rfl
theorem lone37 : Lone Tryz.prog 37 := lone_of Tryz.underlying37 rfl
theorem lone38 : Lone Tryz.prog 38 := lone_of Tryz.underlying38 rfl
theorem lone39 : Lone Tryz.prog 39 := lone_of Tryz.underlying39 rfl
theorem lone40 : Lone Tryz.prog 40 := lone_of Tryz.underlying40 rfl
theorem lone41 : Lone Tryz.prog 41 := lone_of Tryz.underlying41 rfl
theorem lone42 : Lone Tryz.prog 42 := lone_of Tryz.underlying42 rfl
theorem lone43 : Lone Tryz.prog 43 := lone_of Tryz.underlying43 rfl
theorem lone44 : Lone Tryz.prog 44 := lone_of Tryz.underlying44 rfl
theorem lone45 : Lone Tryz.prog 45 := lone_of Tryz.underlying45 rfl
theorem lone46 : Lone Tryz.prog 46 := lone_of Tryz.underlying46 rfl
theorem lone52 : Lone Tryz.prog 52 := lone_of Tryz.underlying52 rfl
theorem lone53 : Lone Tryz.prog 53 := lone_of Tryz.underlying53 rfl
theorem lone54 : Lone Tryz.prog 54 := lone_of Tryz.underlying54 rfl
theorem lone55 : Lone Tryz.prog 55 := lone_of Tryz.underlying55 rfl
theorem lone56 : Lone Tryz.prog 56 := lone_of Tryz.underlying56 rfl
theorem lone57 : Lone Tryz.prog 57 := lone_of Tryz.underlying57 rfl
theorem lone59 : Lone Tryz.prog 59 := lone_of Tryz.underlying59 rfl
theorem lone60 : Lone Tryz.prog 60 := lone_of Tryz.underlying60 rfl
theorem lone61 : Lone Tryz.prog 61 := lone_of Tryz.underlying61 rfl
theorem lone62 : Lone Tryz.prog 62 := lone_of Tryz.underlying62 rfl
theorem lone63 : Lone Tryz.prog 63 := lone_of Tryz.underlying63 rfl
theorem lone64 : Lone Tryz.prog 64 := lone_of Tryz.underlying64 rfl
theorem lone65 : Lone Tryz.prog 65 := lone_of Tryz.underlying65 rfl
theorem lone68 : Lone Tryz.prog 68 := lone_of Tryz.underlying68 rfl
theorem lone69 : Lone Tryz.prog 69 := lone_of Tryz.underlying69 rfl
theorem lone70 : Lone Tryz.prog 70 := lone_of Tryz.underlying70 rfl
theorem lone71 : Lone Tryz.prog 71 := lone_of Tryz.underlying71 rfl
theorem lone72 : Lone Tryz.prog 72 := lone_of Tryz.underlying72 rfl
theorem lone73 : Lone Tryz.prog 73 := lone_of Tryz.underlying73 rfl
theorem lone74 : Lone Tryz.prog 74 := lone_of Tryz.underlying74 rfl
theorem lone75 : Lone Tryz.prog 75 := lone_of Tryz.underlying75 rfl
theorem lone76 : Lone Tryz.prog 76 := lone_of Tryz.underlying76 rfl
theorem lone77 : Lone Tryz.prog 77 := lone_of Tryz.underlying77 rfl
theorem lone78 : Lone Tryz.prog 78 := lone_of Tryz.underlying78 rfl
theorem lone79 : Lone Tryz.prog 79 := lone_of Tryz.underlying79 rfl
theorem lone80 : Lone Tryz.prog 80 := lone_of Tryz.underlying80 rfl
theorem lone81 : Lone Tryz.prog 81 := lone_of Tryz.underlying81 rfl
theorem lone82 : Lone Tryz.prog 82 := lone_of Tryz.underlying82 rfl
theorem lone83 : Lone Tryz.prog 83 := lone_of Tryz.underlying83 rfl
theorem lone84 : Lone Tryz.prog 84 := lone_of Tryz.underlying84 rfl
theorem lone85 : Lone Tryz.prog 85 := lone_of Tryz.underlying85 rfl
theorem lone86 : Lone Tryz.prog 86 := lone_of Tryz.underlying86 rfl
theorem lone87 : Lone Tryz.prog 87 := lone_of Tryz.underlying87 rfl
theorem lone88 : Lone Tryz.prog 88 := lone_of Tryz.underlying88 rfl
theorem lone89 : Lone Tryz.prog 89 := lone_of Tryz.underlying89 rfl
theorem lone90 : Lone Tryz.prog 90 := lone_of Tryz.underlying90 rfl
theorem lone94 : Lone Tryz.prog 94 := lone_of Tryz.underlying94 rfl
theorem lone95 : Lone Tryz.prog 95 := lone_of Tryz.underlying95 rfl
theorem lone96 : Lone Tryz.prog 96 := lone_of Tryz.underlying96 rfl
theorem lone97 : Lone Tryz.prog 97 := lone_of Tryz.underlying97 rfl
theorem lone98 : Lone Tryz.prog 98 := lone_of Tryz.underlying98 rfl
theorem lone99 : Lone Tryz.prog 99 := lone_of Tryz.underlying99 rfl
theorem lone101 : Lone Tryz.prog 101 := lone_of Tryz.underlying101 rfl
theorem lone102 : Lone Tryz.prog 102 := lone_of Tryz.underlying102 rfl
theorem lone104 : Lone Tryz.prog 104 := lone_of Tryz.underlying104 rfl
theorem lone106 : Lone Tryz.prog 106 := lone_of Tryz.underlying106 rfl
theorem lone108 : Lone Tryz.prog 108 := lone_of Tryz.underlying108 rfl
theorem lone110 : Lone Tryz.prog 110 := lone_of Tryz.underlying110 rfl
theorem lone112 : Lone Tryz.prog 112 := lone_of Tryz.underlying112 rfl
theorem lone113 : Lone Tryz.prog 113 := lone_of Tryz.underlying113 rfl
theorem lone114 : Lone Tryz.prog 114 := lone_of Tryz.underlying114 rfl
theorem lone115 : Lone Tryz.prog 115 := lone_of Tryz.underlying115 rfl
theorem lone116 : Lone Tryz.prog 116 := lone_of Tryz.underlying116 rfl
theorem lone117 : Lone Tryz.prog 117 := lone_of Tryz.underlying117 rfl
theorem lone118 : Lone Tryz.prog 118 := lone_of Tryz.underlying118 rfl
theorem lone119 : Lone Tryz.prog 119 := lone_of Tryz.underlying119 rfl
theorem lone120 : Lone Tryz.prog 120 := lone_of Tryz.underlying120 rfl
theorem lone121 : Lone Tryz.prog 121 := lone_of Tryz.underlying121 rfl
theorem lone122 : Lone Tryz.prog 122 := lone_of Tryz.underlying122 rfl
theorem lone123 : Lone Tryz.prog 123 := lone_of Tryz.underlying123 rfl
theorem lone124 : Lone Tryz.prog 124 := lone_of Tryz.underlying124 rfl
theorem lone125 : Lone Tryz.prog 125 := lone_of Tryz.underlying125 rfl
theorem lone126 : Lone Tryz.prog 126 := lone_of Tryz.underlying126 rfl
theorem lone127 : Lone Tryz.prog 127 := lone_of Tryz.underlying127 rfl
theorem lone128 : Lone Tryz.prog 128 := lone_of Tryz.underlying128 rfl
theorem lone129 : Lone Tryz.prog 129 := lone_of Tryz.underlying129 rfl
theorem lone131 : Lone Tryz.prog 131 := lone_of Tryz.underlying131 rfl
theorem lone132 : Lone Tryz.prog 132 := lone_of Tryz.underlying132 rfl
theorem lone133 : Lone Tryz.prog 133 := lone_of Tryz.underlying133 rfl
theorem lone135 : Lone Tryz.prog 135 := lone_of Tryz.underlying135 rfl
theorem lone136 : Lone Tryz.prog 136 := lone_of Tryz.underlying136 rfl
theorem lone137 : Lone Tryz.prog 137 := lone_of Tryz.underlying137 rfl
theorem lone138 : Lone Tryz.prog 138 := lone_of Tryz.underlying138 rfl
theorem lone139 : Lone Tryz.prog 139 := lone_of Tryz.underlying139 rfl
theorem lone140 : Lone Tryz.prog 140 := lone_of Tryz.underlying140 rfl
theorem lone141 : Lone Tryz.prog 141 := lone_of Tryz.underlying141 rfl
theorem lone142 : Lone Tryz.prog 142 := lone_of Tryz.underlying142 rfl
theorem lone143 : Lone Tryz.prog 143 := lone_of Tryz.underlying143 rfl
theorem lone144 : Lone Tryz.prog 144 := lone_of Tryz.underlying144 rfl
theorem lone145 : Lone Tryz.prog 145 := lone_of Tryz.underlying145 rfl
theorem lone146 : Lone Tryz.prog 146 := lone_of Tryz.underlying146 rfl
theorem lone147 : Lone Tryz.prog 147 := lone_of Tryz.underlying147 rfl
theorem lone148 : Lone Tryz.prog 148 := lone_of Tryz.underlying148 rfl
theorem lone149 : Lone Tryz.prog 149 := lone_of Tryz.underlying149 rfl
theorem lone150 : Lone Tryz.prog 150 := lone_of Tryz.underlying150 rfl
theorem lone151 : Lone Tryz.prog 151 := lone_of Tryz.underlying151 rfl
theorem lone152 : Lone Tryz.prog 152 := lone_of Tryz.underlying152 rfl
theorem lone153 : Lone Tryz.prog 153 := lone_of Tryz.underlying153 rfl
theorem lone154 : Lone Tryz.prog 154 := lone_of Tryz.underlying154 rfl
theorem lone155 : Lone Tryz.prog 155 := lone_of Tryz.underlying155 rfl
theorem lone157 : Lone Tryz.prog 157 := lone_of Tryz.underlying157 rfl
theorem lone158 : Lone Tryz.prog 158 := lone_of Tryz.underlying158 rfl
theorem lone159 : Lone Tryz.prog 159 := lone_of Tryz.underlying159 rfl
theorem lone160 : Lone Tryz.prog 160 := lone_of Tryz.underlying160 rfl
theorem lone161 : Lone Tryz.prog 161 := lone_of Tryz.underlying161 rfl
theorem lone162 : Lone Tryz.prog 162 := lone_of Tryz.underlying162 rfl
theorem lone166 : Lone Tryz.prog 166 := lone_of Tryz.underlying166 rfl
theorem lone167 : Lone Tryz.prog 167 := lone_of Tryz.underlying167 rfl
theorem lone168 : Lone Tryz.prog 168 := lone_of Tryz.underlying168 rfl
theorem lone169 : Lone Tryz.prog 169 := lone_of Tryz.underlying169 rfl
theorem lone170 : Lone Tryz.prog 170 := lone_of Tryz.underlying170 rfl
theorem lone171 : Lone Tryz.prog 171 := lone_of Tryz.underlying171 rfl
theorem lone173 : Lone Tryz.prog 173 := lone_of Tryz.underlying173 rfl
theorem lone174 : Lone Tryz.prog 174 := lone_of Tryz.underlying174 rfl
theorem lone176 : Lone Tryz.prog 176 := lone_of Tryz.underlying176 rfl
theorem lone178 : Lone Tryz.prog 178 := lone_of Tryz.underlying178 rfl
theorem lone179 : Lone Tryz.prog 179 := lone_of Tryz.underlying179 rfl
theorem lone182 : Lone Tryz.prog 182 := lone_of Tryz.underlying182 rfl
theorem lone183 : Lone Tryz.prog 183 := lone_of Tryz.underlying183 rfl
theorem lone185 : Lone Tryz.prog 185 := lone_of Tryz.underlying185 rfl
theorem lone186 : Lone Tryz.prog 186 := lone_of Tryz.underlying186 rfl
theorem lone187 : Lone Tryz.prog 187 := lone_of Tryz.underlying187 rfl
theorem lone188 : Lone Tryz.prog 188 := lone_of Tryz.underlying188 rfl
theorem lone190 : Lone Tryz.prog 190 := lone_of Tryz.underlying190 rfl
theorem lone192 : Lone Tryz.prog 192 := lone_of Tryz.underlying192 rfl
theorem lone193 : Lone Tryz.prog 193 := lone_of Tryz.underlying193 rfl
theorem lone194 : Lone Tryz.prog 194 := lone_of Tryz.underlying194 rfl
theorem lone195 : Lone Tryz.prog 195 := lone_of Tryz.underlying195 rfl
theorem lone198 : Lone Tryz.prog 198 := lone_of Tryz.underlying198 rfl
theorem lone199 : Lone Tryz.prog 199 := lone_of Tryz.underlying199 rfl
theorem lone200 : Lone Tryz.prog 200 := lone_of Tryz.underlying200 rfl
theorem lone205 : Lone Tryz.prog 205 := lone_of Tryz.underlying205 rfl
theorem lone207 : Lone Tryz.prog 207 := lone_of Tryz.underlying207 rfl
theorem lone215 : Lone Tryz.prog 215 := lone_of Tryz.underlying215 rfl
theorem lone216 : Lone Tryz.prog 216 := lone_of Tryz.underlying216 rfl
theorem lone217 : Lone Tryz.prog 217 := lone_of Tryz.underlying217 rfl
theorem lone218 : Lone Tryz.prog 218 := lone_of Tryz.underlying218 rfl
theorem lone219 : Lone Tryz.prog 219 := lone_of Tryz.underlying219 rfl
theorem lone222 : Lone Tryz.prog 222 := lone_of Tryz.underlying222 rfl
-- 0 main.main
-- 1 gosem.cut
-- 2 gosem.cut.init
-- 3 quiltwork/quiltworklaw09.CodeWrites
theorem cl3 : Callable Tryz.prog 3 := callable_of Tryz.func3 (by kernel_rfl) (by kernel_rfl)
-- 4 quiltwork/quiltworklaw09.CodeApart
theorem cl4 : Callable Tryz.prog 4 := callable_of Tryz.func4 (by kernel_rfl) (by kernel_rfl)
-- 5 quiltwork/quiltworklaw09.CodeReads
theorem cl5 : Callable Tryz.prog 5 := callable_of Tryz.func5 (by kernel_rfl) (by kernel_rfl)
-- 6 quiltwork/quiltworklaw09.CodeBack
theorem cl6 : Callable Tryz.prog 6 := callable_of Tryz.func6 (by kernel_rfl) (by kernel_rfl)
-- 7 quiltwork/quiltworklaw09.CodeOne
theorem cl7 : Callable Tryz.prog 7 := callable_of Tryz.func7 (by kernel_rfl) (by kernel_rfl)
-- 8 quiltwork/quiltworklaw09.CodeSpoils
theorem cl8 : Callable Tryz.prog 8 := callable_of Tryz.func8 (by kernel_rfl) (by kernel_rfl)
-- 9 quiltwork/quiltworklaw09.few
theorem cl9 : Callable Tryz.prog 9 := callable_of Tryz.func9 (by kernel_rfl) (by kernel_rfl)
-- 10 quiltwork/quiltworklaw09.alive
theorem cl10 : Callable Tryz.prog 10 := callable_of Tryz.func10 (by kernel_rfl) (by kernel_rfl)
-- 11 quiltwork/quiltworklaw09.put
theorem cl11 : Callable Tryz.prog 11 := callable_of Tryz.func11 (by kernel_rfl) (by kernel_rfl)
-- 12 (*quiltwork/code.Out).Bytes
theorem cl12 : Callable Tryz.prog 12 := callable_of Tryz.func12 (by kernel_rfl) (by kernel_rfl)
-- 13 quiltwork/code.Of
theorem cl13 : Callable Tryz.prog 13 := callable_of Tryz.func13 (by kernel_rfl) (by kernel_rfl)
-- 14 (*quiltwork/code.In).Num
theorem cl14 : Callable Tryz.prog 14 := callable_of Tryz.func14 (by kernel_rfl) (by kernel_rfl)
-- 15 (*quiltwork/code.In).Flag
theorem cl15 : Callable Tryz.prog 15 := callable_of Tryz.func15 (by kernel_rfl) (by kernel_rfl)
-- 16 (*quiltwork/code.In).Text
theorem cl16 : Callable Tryz.prog 16 := callable_of Tryz.func16 (by kernel_rfl) (by kernel_rfl)
-- 17 (*quiltwork/code.In).Texts
theorem cl17 : Callable Tryz.prog 17 := callable_of Tryz.func17 (by kernel_rfl) (by kernel_rfl)
-- 18 (*quiltwork/code.In).Left
theorem cl18 : Callable Tryz.prog 18 := callable_of Tryz.func18 (by kernel_rfl) (by kernel_rfl)
-- 19 quiltwork/quiltworklaw09.read
theorem cl19 : Callable Tryz.prog 19 := callable_of Tryz.func19 (by kernel_rfl) (by kernel_rfl)
-- 20 (*quiltwork/code.In).Done
theorem cl20 : Callable Tryz.prog 20 := callable_of Tryz.func20 (by kernel_rfl) (by kernel_rfl)
-- 21 quiltwork/quiltworkref03.Right
theorem cl21 : Callable Tryz.prog 21 := callable_of Tryz.func21 (by kernel_rfl) (by kernel_rfl)
-- 22 quiltwork/quiltworkref07.Right
theorem cl22 : Callable Tryz.prog 22 := callable_of Tryz.func22 (by kernel_rfl) (by kernel_rfl)
-- 23 quiltwork/quiltworkref01.Same
theorem cl23 : Callable Tryz.prog 23 := callable_of Tryz.func23 (by kernel_rfl) (by kernel_rfl)
-- 24 quiltwork/quiltworkref03.Same
theorem cl24 : Callable Tryz.prog 24 := callable_of Tryz.func24 (by kernel_rfl) (by kernel_rfl)
-- 25 (*quiltwork/code.In).Prim
theorem cl25 : Callable Tryz.prog 25 := callable_of Tryz.func25 (by kernel_rfl) (by kernel_rfl)
-- 26 quiltwork/quiltworkref03.All
theorem cl26 : Callable Tryz.prog 26 := callable_of Tryz.func26 (by kernel_rfl) (by kernel_rfl)
-- 27 quiltwork/quiltworklaw03.Old
theorem cl27 : Callable Tryz.prog 27 := callable_of Tryz.func27 (by kernel_rfl) (by kernel_rfl)
-- 28 (*quiltwork/code.In).Prims
theorem cl28 : Callable Tryz.prog 28 := callable_of Tryz.func28 (by kernel_rfl) (by kernel_rfl)
-- 29 quiltwork/quiltworkref07.Same
theorem cl29 : Callable Tryz.prog 29 := callable_of Tryz.func29 (by kernel_rfl) (by kernel_rfl)
-- 30 quiltwork/quiltworklaw07.Old
theorem cl30 : Callable Tryz.prog 30 := callable_of Tryz.func30 (by kernel_rfl) (by kernel_rfl)
-- 31 (*quiltwork/code.In).Patch
theorem cl31 : Callable Tryz.prog 31 := callable_of Tryz.func31 (by kernel_rfl) (by kernel_rfl)
-- 32 (*quiltwork/code.Out).Num
theorem cl32 : Callable Tryz.prog 32 := callable_of Tryz.func32 (by kernel_rfl) (by kernel_rfl)
-- 33 (*quiltwork/code.Out).Flag
theorem cl33 : Callable Tryz.prog 33 := callable_of Tryz.func33 (by kernel_rfl) (by kernel_rfl)
-- 34 (*quiltwork/code.Out).Text
theorem cl34 : Callable Tryz.prog 34 := callable_of Tryz.func34 (by kernel_rfl) (by kernel_rfl)
-- 35 (*quiltwork/code.Out).Texts
theorem cl35 : Callable Tryz.prog 35 := callable_of Tryz.func35 (by kernel_rfl) (by kernel_rfl)
-- 36 (*quiltwork/code.Out).Prim
theorem cl36 : Callable Tryz.prog 36 := callable_of Tryz.func36 (by kernel_rfl) (by kernel_rfl)
-- 37 (*quiltwork/code.Out).Prims
theorem cl37 : Callable Tryz.prog 37 := callable_of Tryz.func37 (by kernel_rfl) (by kernel_rfl)
-- 38 (*quiltwork/code.Out).Patch
theorem cl38 : Callable Tryz.prog 38 := callable_of Tryz.func38 (by kernel_rfl) (by kernel_rfl)
-- 39 quiltwork/prim.Same
theorem cl39 : Callable Tryz.prog 39 := callable_of Tryz.func39 (by kernel_rfl) (by kernel_rfl)
-- 40 quiltwork/named.Same
theorem cl40 : Callable Tryz.prog 40 := callable_of Tryz.func40 (by kernel_rfl) (by kernel_rfl)
-- 41 quiltwork/quiltworklaw03.Many
theorem cl41 : Callable Tryz.prog 41 := callable_of Tryz.func41 (by kernel_rfl) (by kernel_rfl)
-- 42 quiltwork/quiltworklaw07.Many
theorem cl42 : Callable Tryz.prog 42 := callable_of Tryz.func42 (by kernel_rfl) (by kernel_rfl)
-- 43 quiltwork/quiltworkref09.Num
theorem cl43 : Callable Tryz.prog 43 := callable_of Tryz.func43 (by kernel_rfl) (by kernel_rfl)
-- 44 quiltwork/quiltworkref09.Flag
theorem cl44 : Callable Tryz.prog 44 := callable_of Tryz.func44 (by kernel_rfl) (by kernel_rfl)
-- 45 quiltwork/quiltworkref09.Text
theorem cl45 : Callable Tryz.prog 45 := callable_of Tryz.func45 (by kernel_rfl) (by kernel_rfl)
-- 46 quiltwork/quiltworkref09.Texts
theorem cl46 : Callable Tryz.prog 46 := callable_of Tryz.func46 (by kernel_rfl) (by kernel_rfl)
-- 47 quiltwork/quiltworkref09.Prim
theorem cl47 : Callable Tryz.prog 47 := callable_of Tryz.func47 (by kernel_rfl) (by kernel_rfl)
-- 48 quiltwork/quiltworklaw03.New
theorem cl48 : Callable Tryz.prog 48 := callable_of Tryz.func48 (by kernel_rfl) (by kernel_rfl)
-- 49 quiltwork/quiltworkref09.Prims
theorem cl49 : Callable Tryz.prog 49 := callable_of Tryz.func49 (by kernel_rfl) (by kernel_rfl)
-- 50 quiltwork/quiltworklaw07.New
theorem cl50 : Callable Tryz.prog 50 := callable_of Tryz.func50 (by kernel_rfl) (by kernel_rfl)
-- 51 quiltwork/quiltworkref09.Patch
theorem cl51 : Callable Tryz.prog 51 := callable_of Tryz.func51 (by kernel_rfl) (by kernel_rfl)
-- 52 slices.Clone[[]byte,byte]
theorem cl52 : Callable Tryz.prog 52 := callable_of Tryz.func52 (by kernel_rfl) (by kernel_rfl)
-- 53 (*quiltwork/code.In).number
theorem cl53 : Callable Tryz.prog 53 := callable_of Tryz.func53 (by kernel_rfl) (by kernel_rfl)
-- 54 quiltwork/code.goes[int]
theorem cl54 : Callable Tryz.prog 54 := callable_of Tryz.func54 (by kernel_rfl) (by kernel_rfl)
-- 55 quiltwork/code.goes[bool]
theorem cl55 : Callable Tryz.prog 55 := callable_of Tryz.func55 (by kernel_rfl) (by kernel_rfl)
-- 56 quiltwork/code.goes[string]
theorem cl56 : Callable Tryz.prog 56 := callable_of Tryz.func56 (by kernel_rfl) (by kernel_rfl)
-- 57 quiltwork/code.some[string]
theorem cl57 : Callable Tryz.prog 57 := callable_of Tryz.func57 (by kernel_rfl) (by kernel_rfl)
-- 58 (*quiltwork/code.In).Texts$1
theorem cl58 : Callable Tryz.prog 58 := callable_of Tryz.func58 (by kernel_rfl) (by kernel_rfl)
-- 59 quiltwork/quiltworkref09.TakeNum
theorem cl59 : Callable Tryz.prog 59 := callable_of Tryz.func59 (by kernel_rfl) (by kernel_rfl)
-- 60 quiltwork/quiltworkref09.TakeFlag
theorem cl60 : Callable Tryz.prog 60 := callable_of Tryz.func60 (by kernel_rfl) (by kernel_rfl)
-- 61 quiltwork/quiltworkref09.TakeText
theorem cl61 : Callable Tryz.prog 61 := callable_of Tryz.func61 (by kernel_rfl) (by kernel_rfl)
-- 62 quiltwork/quiltworkref09.TakeTexts
theorem cl62 : Callable Tryz.prog 62 := callable_of Tryz.func62 (by kernel_rfl) (by kernel_rfl)
-- 63 quiltwork/quiltworkref09.TakePrim
theorem cl63 : Callable Tryz.prog 63 := callable_of Tryz.func63 (by kernel_rfl) (by kernel_rfl)
-- 64 quiltwork/quiltworkref09.TakePrims
theorem cl64 : Callable Tryz.prog 64 := callable_of Tryz.func64 (by kernel_rfl) (by kernel_rfl)
-- 65 quiltwork/quiltworkref09.TakePatch
theorem cl65 : Callable Tryz.prog 65 := callable_of Tryz.func65 (by kernel_rfl) (by kernel_rfl)
-- 66 quiltwork/quiltworkref02.Named
theorem cl66 : Callable Tryz.prog 66 := callable_of Tryz.func66 (by kernel_rfl) (by kernel_rfl)
-- 67 quiltwork/quiltworkref01.All
theorem cl67 : Callable Tryz.prog 67 := callable_of Tryz.func67 (by kernel_rfl) (by kernel_rfl)
-- 68 quiltwork/quiltworkref01.Right
theorem cl68 : Callable Tryz.prog 68 := callable_of Tryz.func68 (by kernel_rfl) (by kernel_rfl)
-- 69 quiltwork/quiltworkref05.Right
theorem cl69 : Callable Tryz.prog 69 := callable_of Tryz.func69 (by kernel_rfl) (by kernel_rfl)
-- 70 quiltwork/code.whole[quiltwork/prim.Prim]
theorem cl70 : Callable Tryz.prog 70 := callable_of Tryz.func70 (by kernel_rfl) (by kernel_rfl)
-- 71 (*quiltwork/code.In).prim
theorem cl71 : Callable Tryz.prog 71 := callable_of Tryz.func71 (by kernel_rfl) (by kernel_rfl)
-- 72 quiltwork/prim.Right
theorem cl72 : Callable Tryz.prog 72 := callable_of Tryz.func72 (by kernel_rfl) (by kernel_rfl)
-- 73 quiltwork/code.some[quiltwork/prim.Prim]
theorem cl73 : Callable Tryz.prog 73 := callable_of Tryz.func73 (by kernel_rfl) (by kernel_rfl)
-- 74 quiltwork/code.whole[quiltwork/named.Patch]
theorem cl74 : Callable Tryz.prog 74 := callable_of Tryz.func74 (by kernel_rfl) (by kernel_rfl)
-- 75 (*quiltwork/code.In).patch
theorem cl75 : Callable Tryz.prog 75 := callable_of Tryz.func75 (by kernel_rfl) (by kernel_rfl)
-- 76 quiltwork/named.Right
theorem cl76 : Callable Tryz.prog 76 := callable_of Tryz.func76 (by kernel_rfl) (by kernel_rfl)
-- 77 strconv.AppendInt
theorem cl77 : Callable Tryz.prog 77 := callable_of Tryz.func77 (by kernel_rfl) (by kernel_rfl)
-- 78 quiltwork/code.each[string]
theorem cl78 : Callable Tryz.prog 78 := callable_of Tryz.func78 (by kernel_rfl) (by kernel_rfl)
-- 79 quiltwork/code.each[quiltwork/prim.Prim]
theorem cl79 : Callable Tryz.prog 79 := callable_of Tryz.func79 (by kernel_rfl) (by kernel_rfl)
-- 80 quiltwork/code.each[int]
theorem cl80 : Callable Tryz.prog 80 := callable_of Tryz.func80 (by kernel_rfl) (by kernel_rfl)
-- 81 quiltwork/line.Same
theorem cl81 : Callable Tryz.prog 81 := callable_of Tryz.func81 (by kernel_rfl) (by kernel_rfl)
-- 82 slices.Equal[[]int,int]
theorem cl82 : Callable Tryz.prog 82 := callable_of Tryz.func82 (by kernel_rfl) (by kernel_rfl)
-- 83 quiltwork/seq.Same
theorem cl83 : Callable Tryz.prog 83 := callable_of Tryz.func83 (by kernel_rfl) (by kernel_rfl)
-- 84 quiltwork/quiltworkref09.digits
theorem cl84 : Callable Tryz.prog 84 := callable_of Tryz.func84 (by kernel_rfl) (by kernel_rfl)
-- 85 bytes.IndexByte
theorem cl85 : Callable Tryz.prog 85 := callable_of Tryz.func85 (by kernel_rfl) (by kernel_rfl)
-- 86 strconv.Atoi
theorem cl86 : Callable Tryz.prog 86 := callable_of Tryz.func86 (by kernel_rfl) (by kernel_rfl)
-- 87 strconv.Itoa
theorem cl87 : Callable Tryz.prog 87 := callable_of Tryz.func87 (by kernel_rfl) (by kernel_rfl)
-- 88 quiltwork/code.some[string]$1
theorem cl88 : Callable Tryz.prog 88 := callable_of Tryz.func88 (by kernel_rfl) (by kernel_rfl)
-- 89 quiltwork/code.whole[[]string]
theorem cl89 : Callable Tryz.prog 89 := callable_of Tryz.func89 (by kernel_rfl) (by kernel_rfl)
-- 90 quiltwork/code.some[string]$2
theorem cl90 : Callable Tryz.prog 90 := callable_of Tryz.func90 (by kernel_rfl) (by kernel_rfl)
-- 91 quiltwork/quiltworkref09.upto
theorem cl91 : Callable Tryz.prog 91 := callable_of Tryz.func91 (by kernel_rfl) (by kernel_rfl)
-- 92 quiltwork/quiltworkref09.spoil
theorem cl92 : Callable Tryz.prog 92 := callable_of Tryz.func92 (by kernel_rfl) (by kernel_rfl)
-- 93 quiltwork/tree.Named
theorem cl93 : Callable Tryz.prog 93 := callable_of Tryz.func93 (by kernel_rfl) (by kernel_rfl)
-- 94 quiltwork/line.All
theorem cl94 : Callable Tryz.prog 94 := callable_of Tryz.func94 (by kernel_rfl) (by kernel_rfl)
-- 95 quiltwork/code.some[quiltwork/prim.Prim]$1
theorem cl95 : Callable Tryz.prog 95 := callable_of Tryz.func95 (by kernel_rfl) (by kernel_rfl)
-- 96 quiltwork/code.whole[[]quiltwork/prim.Prim]
theorem cl96 : Callable Tryz.prog 96 := callable_of Tryz.func96 (by kernel_rfl) (by kernel_rfl)
-- 97 quiltwork/code.some[quiltwork/prim.Prim]$2
theorem cl97 : Callable Tryz.prog 97 := callable_of Tryz.func97 (by kernel_rfl) (by kernel_rfl)
-- 98 quiltwork/code.some[int]
theorem cl98 : Callable Tryz.prog 98 := callable_of Tryz.func98 (by kernel_rfl) (by kernel_rfl)
-- 99 quiltwork/named.Right$1
theorem cl99 : Callable Tryz.prog 99 := callable_of Tryz.func99 (by kernel_rfl) (by kernel_rfl)
-- 100 quiltwork/line.Right
theorem cl100 : Callable Tryz.prog 100 := callable_of Tryz.func100 (by kernel_rfl) (by kernel_rfl)
-- 101 slices.ContainsFunc[[]int,int]
theorem cl101 : Callable Tryz.prog 101 := callable_of Tryz.func101 (by kernel_rfl) (by kernel_rfl)
-- 102 quiltwork/seq.Right
theorem cl102 : Callable Tryz.prog 102 := callable_of Tryz.func102 (by kernel_rfl) (by kernel_rfl)
-- 103 internal/strconv.AppendInt
theorem cl103 : Callable Tryz.prog 103 := callable_of Tryz.func103 (by kernel_rfl) (by kernel_rfl)
-- 104 slices.Equal[[]string,string]
theorem cl104 : Callable Tryz.prog 104 := callable_of Tryz.func104 (by kernel_rfl) (by kernel_rfl)
-- 105 slices.EqualFunc[[]quiltwork/prim.Prim,[]quiltwork/prim.Prim,quiltwork/prim.Prim,quiltwork/prim.Prim]
theorem cl105 : Callable Tryz.prog 105 := callable_of Tryz.func105 (by kernel_rfl) (by kernel_rfl)
-- 106 internal/bytealg.IndexByte
-- 107 internal/strconv.Atoi
theorem cl107 : Callable Tryz.prog 107 := callable_of Tryz.func107 (by kernel_rfl) (by kernel_rfl)
-- 108 strconv.toError
theorem cl108 : Callable Tryz.prog 108 := callable_of Tryz.func108 (by kernel_rfl) (by kernel_rfl)
-- 109 internal/strconv.Itoa
theorem cl109 : Callable Tryz.prog 109 := callable_of Tryz.func109 (by kernel_rfl) (by kernel_rfl)
-- 110 strings.Trim
theorem cl110 : Callable Tryz.prog 110 := callable_of Tryz.func110 (by kernel_rfl) (by kernel_rfl)
-- 111 slices.ContainsFunc[[]string,string]
theorem cl111 : Callable Tryz.prog 111 := callable_of Tryz.func111 (by kernel_rfl) (by kernel_rfl)
-- 112 quiltwork/line.All$1
theorem cl112 : Callable Tryz.prog 112 := callable_of Tryz.func112 (by kernel_rfl) (by kernel_rfl)
-- 113 quiltwork/code.some[int]$1
theorem cl113 : Callable Tryz.prog 113 := callable_of Tryz.func113 (by kernel_rfl) (by kernel_rfl)
-- 114 quiltwork/code.whole[[]int]
theorem cl114 : Callable Tryz.prog 114 := callable_of Tryz.func114 (by kernel_rfl) (by kernel_rfl)
-- 115 quiltwork/code.some[int]$2
theorem cl115 : Callable Tryz.prog 115 := callable_of Tryz.func115 (by kernel_rfl) (by kernel_rfl)
-- 116 strings.Contains
theorem cl116 : Callable Tryz.prog 116 := callable_of Tryz.func116 (by kernel_rfl) (by kernel_rfl)
-- 117 slices.IndexFunc[[]int,int]
theorem cl117 : Callable Tryz.prog 117 := callable_of Tryz.func117 (by kernel_rfl) (by kernel_rfl)
-- 118 slices.ContainsFunc[[]quiltwork/prim.Prim,quiltwork/prim.Prim]
theorem cl118 : Callable Tryz.prog 118 := callable_of Tryz.func118 (by kernel_rfl) (by kernel_rfl)
-- 119 quiltwork/seq.Right$1
theorem cl119 : Callable Tryz.prog 119 := callable_of Tryz.func119 (by kernel_rfl) (by kernel_rfl)
-- 120 internal/strconv.AppendUint
theorem cl120 : Callable Tryz.prog 120 := callable_of Tryz.func120 (by kernel_rfl) (by kernel_rfl)
-- 121 internal/strconv.ParseInt
theorem cl121 : Callable Tryz.prog 121 := callable_of Tryz.func121 (by kernel_rfl) (by kernel_rfl)
-- 122 strconv.syntaxError
theorem cl122 : Callable Tryz.prog 122 := callable_of Tryz.func122 (by kernel_rfl) (by kernel_rfl)
-- 123 strconv.rangeError
theorem cl123 : Callable Tryz.prog 123 := callable_of Tryz.func123 (by kernel_rfl) (by kernel_rfl)
-- 124 strconv.baseError
theorem cl124 : Callable Tryz.prog 124 := callable_of Tryz.func124 (by kernel_rfl) (by kernel_rfl)
-- 125 strconv.bitSizeError
theorem cl125 : Callable Tryz.prog 125 := callable_of Tryz.func125 (by kernel_rfl) (by kernel_rfl)
-- 126 internal/strconv.FormatInt
theorem cl126 : Callable Tryz.prog 126 := callable_of Tryz.func126 (by kernel_rfl) (by kernel_rfl)
-- 127 strings.trimLeftByte
theorem cl127 : Callable Tryz.prog 127 := callable_of Tryz.func127 (by kernel_rfl) (by kernel_rfl)
-- 128 strings.trimRightByte
theorem cl128 : Callable Tryz.prog 128 := callable_of Tryz.func128 (by kernel_rfl) (by kernel_rfl)
-- 129 strings.makeASCIISet
theorem cl129 : Callable Tryz.prog 129 := callable_of Tryz.func129 (by kernel_rfl) (by kernel_rfl)
-- 130 strings.trimLeftASCII
theorem cl130 : Callable Tryz.prog 130 := callable_of Tryz.func130 (by kernel_rfl) (by kernel_rfl)
-- 131 strings.trimRightASCII
theorem cl131 : Callable Tryz.prog 131 := callable_of Tryz.func131 (by kernel_rfl) (by kernel_rfl)
-- 132 strings.trimLeftUnicode
theorem cl132 : Callable Tryz.prog 132 := callable_of Tryz.func132 (by kernel_rfl) (by kernel_rfl)
-- 133 strings.trimRightUnicode
theorem cl133 : Callable Tryz.prog 133 := callable_of Tryz.func133 (by kernel_rfl) (by kernel_rfl)
-- 134 slices.IndexFunc[[]string,string]
theorem cl134 : Callable Tryz.prog 134 := callable_of Tryz.func134 (by kernel_rfl) (by kernel_rfl)
-- 135 strings.Index
theorem cl135 : Callable Tryz.prog 135 := callable_of Tryz.func135 (by kernel_rfl) (by kernel_rfl)
-- 136 slices.IndexFunc[[]quiltwork/prim.Prim,quiltwork/prim.Prim]
theorem cl136 : Callable Tryz.prog 136 := callable_of Tryz.func136 (by kernel_rfl) (by kernel_rfl)
-- 137 internal/strconv.small
theorem cl137 : Callable Tryz.prog 137 := callable_of Tryz.func137 (by kernel_rfl) (by kernel_rfl)
-- 138 internal/strconv.numDigits
theorem cl138 : Callable Tryz.prog 138 := callable_of Tryz.func138 (by kernel_rfl) (by kernel_rfl)
-- 139 internal/strconv.formatBase10
theorem cl139 : Callable Tryz.prog 139 := callable_of Tryz.func139 (by kernel_rfl) (by kernel_rfl)
-- 140 internal/strconv.formatBits
theorem cl140 : Callable Tryz.prog 140 := callable_of Tryz.func140 (by kernel_rfl) (by kernel_rfl)
-- 141 internal/strconv.ParseUint
theorem cl141 : Callable Tryz.prog 141 := callable_of Tryz.func141 (by kernel_rfl) (by kernel_rfl)
-- 142 internal/stringslite.Clone
theorem cl142 : Callable Tryz.prog 142 := callable_of Tryz.func142 (by kernel_rfl) (by kernel_rfl)
-- 143 errors.New
theorem cl143 : Callable Tryz.prog 143 := callable_of Tryz.func143 (by kernel_rfl) (by kernel_rfl)
-- 144 (*strings.asciiSet).contains
theorem cl144 : Callable Tryz.prog 144 := callable_of Tryz.func144 (by kernel_rfl) (by kernel_rfl)
-- 145 unicode/utf8.DecodeRuneInString
theorem cl145 : Callable Tryz.prog 145 := callable_of Tryz.func145 (by kernel_rfl) (by kernel_rfl)
-- 146 strings.ContainsRune
theorem cl146 : Callable Tryz.prog 146 := callable_of Tryz.func146 (by kernel_rfl) (by kernel_rfl)
-- 147 unicode/utf8.DecodeLastRuneInString
theorem cl147 : Callable Tryz.prog 147 := callable_of Tryz.func147 (by kernel_rfl) (by kernel_rfl)
-- 148 internal/stringslite.Index
theorem cl148 : Callable Tryz.prog 148 := callable_of Tryz.func148 (by kernel_rfl) (by kernel_rfl)
-- 149 internal/strconv.log10Pow2
theorem cl149 : Callable Tryz.prog 149 := callable_of Tryz.func149 (by kernel_rfl) (by kernel_rfl)
-- 150 math/bits.Len64
theorem cl150 : Callable Tryz.prog 150 := callable_of Tryz.func150 (by kernel_rfl) (by kernel_rfl)
-- 151 internal/strconv.bool2[int]
theorem cl151 : Callable Tryz.prog 151 := callable_of Tryz.func151 (by kernel_rfl) (by kernel_rfl)
-- 152 internal/strconv.isPowerOfTwo
theorem cl152 : Callable Tryz.prog 152 := callable_of Tryz.func152 (by kernel_rfl) (by kernel_rfl)
-- 153 math/bits.TrailingZeros
theorem cl153 : Callable Tryz.prog 153 := callable_of Tryz.func153 (by kernel_rfl) (by kernel_rfl)
-- 154 internal/strconv.lower
theorem cl154 : Callable Tryz.prog 154 := callable_of Tryz.func154 (by kernel_rfl) (by kernel_rfl)
-- 155 internal/strconv.underscoreOK
theorem cl155 : Callable Tryz.prog 155 := callable_of Tryz.func155 (by kernel_rfl) (by kernel_rfl)
-- 156 unicode/utf8.decodeRuneInStringSlow
theorem cl156 : Callable Tryz.prog 156 := callable_of Tryz.func156 (by kernel_rfl) (by kernel_rfl)
-- 157 strings.IndexRune
theorem cl157 : Callable Tryz.prog 157 := callable_of Tryz.func157 (by kernel_rfl) (by kernel_rfl)
-- 158 unicode/utf8.RuneStart
theorem cl158 : Callable Tryz.prog 158 := callable_of Tryz.func158 (by kernel_rfl) (by kernel_rfl)
-- 159 internal/stringslite.IndexByte
theorem cl159 : Callable Tryz.prog 159 := callable_of Tryz.func159 (by kernel_rfl) (by kernel_rfl)
-- 160 internal/bytealg.IndexString
-- 161 internal/bytealg.Cutover
theorem cl161 : Callable Tryz.prog 161 := callable_of Tryz.func161 (by kernel_rfl) (by kernel_rfl)
-- 162 internal/bytealg.IndexRabinKarp[string]
theorem cl162 : Callable Tryz.prog 162 := callable_of Tryz.func162 (by kernel_rfl) (by kernel_rfl)
-- 163 math/bits.TrailingZeros32
theorem cl163 : Callable Tryz.prog 163 := callable_of Tryz.func163 (by kernel_rfl) (by kernel_rfl)
-- 164 math/bits.TrailingZeros64
theorem cl164 : Callable Tryz.prog 164 := callable_of Tryz.func164 (by kernel_rfl) (by kernel_rfl)
-- 165 strings.IndexByte
theorem cl165 : Callable Tryz.prog 165 := callable_of Tryz.func165 (by kernel_rfl) (by kernel_rfl)
-- 166 unicode/utf8.ValidRune
theorem cl166 : Callable Tryz.prog 166 := callable_of Tryz.func166 (by kernel_rfl) (by kernel_rfl)
-- 167 internal/bytealg.IndexByteString
-- 168 internal/bytealg.hashStr[string]
theorem cl168 : Callable Tryz.prog 168 := callable_of Tryz.func168 (by kernel_rfl) (by kernel_rfl)
-- 169 (runtime.boundsError).Error
-- 170 (runtime.boundsError).RuntimeError
-- 171 (runtime.errorString).Error
-- 172 (runtime.errorString).RuntimeError
-- 173 (runtime.plainError).Error
-- 174 (runtime.plainError).RuntimeError
-- 175 (runtime.errorAddressString).Error
-- 176 (runtime.errorAddressString).RuntimeError
-- 177 (*runtime.TypeAssertionError).Error
-- 178 (*runtime.TypeAssertionError).RuntimeError
-- 179 (*runtime.PanicNilError).Error
-- 180 (*runtime.PanicNilError).RuntimeError
-- 181 (*internal/abi.Type).Align
-- 182 (internal/runtime/maps.unhashableTypeError).Error
-- 183 (internal/runtime/maps.unhashableTypeError).RuntimeError
-- 184 (internal/strconv.Error).Error
-- 185 (*strconv.NumError).Error
-- 186 (*errors.errorString).Error
-- 187 (internal/abi.Kind).String
-- 188 var's%20door:%20gosem.cut.vars%20holds%20initialisers%20alone;%20see%20the%20manifest's%20row%20cutvarsword%20(look%2011,%20test%20files%20too)
-- 189 var's%20door:%20internal/strconv.uint64pow10%20is%20laid%20by%20its%20own%20initialiser,%20plain%20data%20(look%2011)
-- 190 var's%20door:%20math/bits.deBruijn32tab%20is%20laid%20by%20its%20own%20initialiser,%20plain%20data%20(look%2011)
-- 191 var's%20door:%20math/bits.deBruijn64tab%20is%20laid%20by%20its%20own%20initialiser,%20plain%20data%20(look%2011)
-- 192 var's%20door:%20strconv.ErrRange%20is%20laid%20by%20its%20own%20call%20of%20errors.New%20on%20one%20literal%20(look%2011)
-- 193 var's%20door:%20strconv.ErrSyntax%20is%20laid%20by%20its%20own%20call%20of%20errors.New%20on%20one%20literal%20(look%2011)
-- 194 var's%20door:%20the%20look%20of%20gosem.cut.vars%20went%20over%20the%20folder%20that%20the%20caller%20named%20as%20the%20repository's%20root%20(look%2011)
-- 195 var's%20door:%20unicode/utf8.acceptRanges%20is%20laid%20by%20its%20own%20initialiser,%20plain%20data%20(look%2011)
-- 196 var's%20door:%20unicode/utf8.first%20is%20laid%20by%20its%20text%20alone%20(pinned%201)
-- 197 gosem.cut.vars
theorem cl197 : Callable Tryz.prog 197 := callable_of Tryz.func197 (by kernel_rfl) (by kernel_rfl)
end Go.Proofs.YtmgkeippepeggaaGreatDoor
/- Chapter 09: the library's numerals, as contracts. -/
namespace Go.Proofs.YtmgkeippepeggaaGreatDoor
open Go Go.SL Go.Lib Go.Sort
abbrev tabC : List Value := pow10Tab.map fun z => Value.int .u64 z
/-- The table of the powers of ten. -/
abbrev G3 : A := BlkR 3 189 tabC
theorem tab_is {L : List A} (h : Has L G3) {w : World} {O : Perm} (hs : Stars L w O) : TabIs Tryz.prog w "internal/strconv.uint64pow10" .u64 pow10Tab := by
  obtain ⟨_, fz, hh⟩ := h w O hs
  have hg : Tryz.prog.globalNamed "internal/strconv.uint64pow10" = some 3 := by kernel_rfl
  unfold TabIs World.var?
  rw [hg]
  show (match w.heap[3]? with | some (.cells cs _ _) => some cs | _ => none) = _
  rw [hh]
theorem numDigits_con (u : Nat) (h1 : 1 ≤ u) (h2 : u < 18446744073709551616) : Con Tryz.prog 138 [.int .u64 u] [G3] (γ := Unit) (fun _ => .int .i64 (nDigits u)) (fun _ => True) (fun _ => []) :=
  con_pure fun w _ hs => Tryz.internal_strconv_numDigits u h1 h2 w (tab_is Has.here hs)
theorem small_con (i : Nat) (h : i < 100) : Con Tryz.prog 137 [.int .i64 i] [] (γ := Unit) (fun _ => .string (sB (decDigits i))) (fun _ => True) (fun _ => []) :=
  con_pure fun w _ _ => Tryz.internal_strconv_small i h w
abbrev byteV (b : UInt8) : Value := .int .u8 (b.toNat : Int)
/-- Cells that are laid over the first of others. -/
theorem put_front {n : Nat} {u v' : Nat} {dk : Array UInt8} {Z : List Value} (hn : n = nDigits u) (hf : FmtInv n u 0 v' dk) (h : n ≤ Z.length) : putCells byteV 0 dk Z.toArray = ((decDigits u).map byteV ++ Z.drop n).toArray := by
  have hdl := decDigits_length u
  have hdk : dk.size = n := hf.size
  apply Array.ext_getElem?
  intro j
  rw [putCells, Array.getElem?_mapIdx, List.getElem?_toArray, List.getElem?_toArray]
  by_cases hjn : j < n
  · rw [List.getElem?_append_left (by rw [List.length_map, hdl]; omega), List.getElem?_map, List.getElem?_eq_getElem (l := decDigits u) (i := j) (by rw [hdl]; omega), List.getElem?_eq_getElem (l := Z) (i := j) (by omega)]
    simp only [Option.map_some, Nat.zero_le, true_and, Nat.zero_add, hdk, Nat.sub_zero, if_pos hjn]
    rw [row_is_numeral (dk := dk) (v' := v') (by rw [← hn]; exact hf)]
  · rw [List.getElem?_append_right (by rw [List.length_map, hdl]; omega), List.getElem?_drop, List.length_map, hdl, show n + (j - nDigits u) = j by omega]
    cases Z[j]? with
    | none => rfl
    | some x => simp only [Option.map_some, Nat.zero_le, true_and, Nat.zero_add, hdk, if_neg hjn]
theorem fmt_con (b n u : Nat) (Z : List Value) (hZl : Z.length = 24) (hZ : ∀ j, j < 24 → Z[j]? = some (Value.int .u8 0)) (hn : n = nDigits u) (hu : u < 18446744073709551616) (h24 : n ≤ 24) : Con Tryz.prog 139 [.slice (some ⟨b, 0, none⟩) n 24, .int .u64 u] [Blk b 172 Z] (γ := Unit) (fun _ => .tuple #[]) (fun _ => True)
    (fun _ => [Blk b 172 ((decDigits u).map byteV ++ Z.drop n)]) := fun w O hs hd => by
  obtain ⟨O1, O2, s, ⟨hb2, hh⟩, _⟩ := hs
  have hO := s.l b
  have hsz : (Array.replicate n (0 : UInt8)).size = n := Array.size_replicate
  have hH : Holds byteV w b 0 (Array.replicate n (0 : UInt8)) := fun j hj => by
    rw [hsz] at hj
    refine ⟨?_, by simp [World.frozen?, hh]⟩
    rw [getElem!_pos _ j (by rw [hsz]; exact hj)]
    have hj2 := hZ j (by omega)
    simp only [World.cell?, hh, Nat.zero_add, List.getElem?_toArray, Array.getElem_replicate]
    rw [hj2]; rfl
  have hc := Tryz.internal_strconv_formatBase10 b 0 24 u (Array.replicate n 0) w hH (by rw [hsz, hn]; exact lt_pow_nDigits u) hu (by rw [hsz]; omega)
  rw [hsz] at hc
  refine hc.mono fun e w' ⟨he, k, v', dk, hw, hf⟩ => ?_
  have hheap : w'.heap = w.heap.modify b (onCells (putCells byteV 0 dk)) := by rw [hw]; rfl
  have hget : w'.heap[b]? = some (.cells ((decDigits u).map byteV ++ Z.drop n).toArray 172 (0, 0)) := by
    rw [hheap, Array.getElem?_modify, if_pos rfl, hh]
    show some (Obj.cells (putCells byteV 0 dk Z.toArray) 172 (0, 0)) = _
    rw [put_front hn hf (by omega)]
  have hother : ∀ k, k ≠ b → w'.heap[k]? = w.heap[k]? := fun k hk => by rw [hheap, Array.getElem?_modify, if_neg (fun h => hk h.symm)]
  refine ⟨(), O, he, trivial, ⟨O, fun _ => 0, ⟨fun _ => Nat.le_refl _, fun _ => Nat.zero_le _, fun _ _ => rfl, fun _ h => absurd h (by simp)⟩, ⟨by omega, hget⟩, trivial⟩, ⟨by rw [hw]; rfl, by rw [hw]; rfl, by rw [hw]; rfl, by rw [hheap, Array.size_modify]; exact Nat.le_refl _, fun k _ h2 => hother k fun q => by subst q; omega, fun _ _ => Nat.le_refl _, fun k h => by rw [hheap, Array.size_modify]; exact hd k h⟩⟩
end Go.Proofs.YtmgkeippepeggaaGreatDoor
/- Chapter 09: where a number ends, in a string from some place on. -/
namespace Go.Proofs.YtmgkeippepeggaaGreatDoor
open Go Go.Lib
def leftB (B : ByteArray) (k : Nat) : List UInt8 := B.data.toList.drop k
theorem leftB_len (B : ByteArray) (k : Nat) : (leftB B k).length = B.size - k := by unfold leftB; rw [List.length_drop, ba_len]
theorem leftB_get {B : ByteArray} {a j : Nat} (h : a + j < B.data.toList.length) : (leftB B a)[j]? = some (B.data.toList[a + j]) := by
  unfold leftB
  rw [List.getElem?_drop, List.getElem?_eq_getElem h]
theorem find_left {B : ByteArray} {a k : Nat} {e : UInt8} (h1 : a ≤ k) (hk : k < B.data.toList.length) (he : B.data.toList[k] = e) (hb : ∀ (j : Nat) (h : j < B.data.toList.length), a ≤ j → j < k → B.data.toList[j] ≠ e) : (leftB B a).findIdx? (· == e) = some (k - a) := by
  rw [List.findIdx?_eq_some_iff_getElem]
  have hl : k - a < (leftB B a).length := by rw [leftB_len, ← ba_len]; omega
  have hg : ∀ (j : Nat) (hj : j < (leftB B a).length), (leftB B a)[j] = B.data.toList[a + j]'(by rw [leftB_len, ← ba_len] at hj; omega) := fun j hj => by
    have := leftB_get (B := B) (a := a) (j := j) (by rw [leftB_len, ← ba_len] at hj; omega)
    rw [List.getElem?_eq_getElem hj] at this
    exact Option.some.inj this
  refine ⟨hl, ?_, fun j hj => ?_⟩
  · rw [hg _ hl]
    simp only [show a + (k - a) = k by omega, he, BEq.rfl]
  · rw [hg _ (by omega)]
    have := hb (a + j) (by rw [leftB_len, ← ba_len] at hl; omega) (by omega) (by omega)
    simpa using this
theorem find_nowhere {B : ByteArray} {a : Nat} {e : UInt8} (hb : ∀ (j : Nat) (h : j < B.data.toList.length), a ≤ j → B.data.toList[j] ≠ e) : (leftB B a).findIdx? (· == e) = none := by
  rw [List.findIdx?_eq_none_iff]
  intro x hx
  obtain ⟨j, hj, rfl⟩ := List.mem_iff_getElem.1 hx
  have hj' : a + j < B.data.toList.length := by rw [leftB_len, ← ba_len] at hj; omega
  have := leftB_get (B := B) (a := a) (j := j) hj'
  rw [List.getElem?_eq_getElem hj] at this
  rw [Option.some.inj this]
  simpa using hb (a + j) hj' (by omega)
/-- A number's value stays small. -/
theorem val_bound : ∀ (s : List UInt8) (a : Int), 0 ≤ a → 0 ≤ s.foldl stepV a ∧ s.foldl stepV a < (a + 1) * 10 ^ s.length
  | [], a, h => by simp; omega
  | b :: s, a, h => by
    have hs : 0 ≤ stepV a b ∧ stepV a b + 1 ≤ (a + 1) * 10 := by
      unfold stepV
      split <;> omega
    obtain ⟨h1, h2⟩ := val_bound s (stepV a b) hs.1
    refine ⟨h1, Int.lt_of_lt_of_le h2 ?_⟩
    rw [List.length_cons, Int.pow_succ, Int.mul_comm (10 ^ s.length) 10, ← Int.mul_assoc]
    exact Int.mul_le_mul_of_nonneg_right hs.2 (Int.pow_nonneg (by decide))
theorem val_small {s : List UInt8} (h : s.length ≤ 14) : 0 ≤ valR s ∧ valR s < 100000000000000 := by
  obtain ⟨h1, h2⟩ := val_bound s 0 (by decide)
  refine ⟨h1, Int.lt_of_lt_of_le h2 ?_⟩
  have h3 : 10 ^ s.length ≤ 10 ^ 14 := Nat.pow_le_pow_right (by decide) h
  have e : (10 : Int) ^ s.length = ((10 ^ s.length : Nat) : Int) := by simp
  have e2 : (10 : Nat) ^ 14 = 100000000000000 := by decide
  rw [e]; omega
theorem valR_next {l : List UInt8} {k : Nat} (hk : k < l.length) : valR (l.take (k + 1)) = stepV (valR (l.take k)) l[k] := by
  unfold valR
  rw [List.take_succ_eq_append_getElem hk, List.foldl_append]; rfl
end Go.Proofs.YtmgkeippepeggaaGreatDoor
/- Chapter 09: the states of the document's reader: ends of a string. -/
namespace Go.Proofs.YtmgkeippepeggaaGreatDoor
open Go Go.Lib
def EndsB (B : ByteArray) (s : St9) : Prop := ∃ k, k ≤ B.size ∧ s.1 = leftB B k
/-- Where the document stands, when this much is left. -/
def plc (B : ByteArray) (s : St9) : Nat := B.size - s.1.length
theorem EndsB.at {B : ByteArray} {s : St9} (h : EndsB B s) : plc B s ≤ B.size ∧ s.1 = leftB B (plc B s) ∧ s.1.length = B.size - plc B s := by
  obtain ⟨k, hk, e⟩ := h
  have hp : plc B s = k := by unfold plc; rw [e, leftB_len]; omega
  rw [hp]
  exact ⟨hk, e, by rw [e, leftB_len]⟩
theorem EndsB.eta {B : ByteArray} {s : St9} (h : EndsB B s) : s = (leftB B (plc B s), s.2) := Prod.ext h.at.2.1 rfl
theorem EndsB.drop {B : ByteArray} {s : St9} (h : EndsB B s) {m : Nat} (hm : m ≤ s.1.length) (b : Bool) : EndsB B (s.1.drop m, b) ∧ plc B (s.1.drop m, b) = plc B s + m := by
  obtain ⟨k, hk, e⟩ := h
  have hl : s.1.length = B.size - k := by rw [e, leftB_len]
  refine ⟨⟨k + m, by omega, ?_⟩, ?_⟩
  · show s.1.drop m = _
    rw [e]; unfold leftB; rw [List.drop_drop]
  · unfold plc
    show B.size - (s.1.drop m).length = _
    rw [List.length_drop]; omega
theorem EndsB.goes {α : Type} {take : St9 → St9 × α} (hg : GoesP take) {B : ByteArray} {s : St9} (h : EndsB B s) : EndsB B (take s).1 := by
  obtain ⟨j, hj, e⟩ := hg s
  obtain ⟨k, hk, e2⟩ := (h.drop hj (take s).1.2).1
  exact ⟨k, hk, e.trans e2⟩
theorem EndsB.start (B : ByteArray) (b : Bool) : EndsB B (B.data.toList, b) ∧ plc B (B.data.toList, b) = 0 := ⟨⟨0, Nat.zero_le _, rfl⟩, by
  unfold plc
  show B.size - B.data.toList.length = 0
  rw [ba_len]; omega⟩
theorem plc_spoil (B : ByteArray) (s : St9) : plc B (spoil9 s) = plc B s := rfl
theorem numS_val {s : List UInt8} {n : Int} (h : numS s = some n) : n = valS s := by
  unfold numS at h
  split at h
  · exact (Option.some.inj h).symm
  · cases h
theorem num9_bound {e : UInt8} {s : St9} {n : Int} {m : Nat} (h : num9 e s = some (n, m)) : 0 < m ∧ m ≤ s.1.length ∧ -100000000000000 < n ∧ n < 100000000000000 ∧ s.2 = false := by
  unfold num9 at h
  split at h
  · cases h
  · rename_i hb
    rw [numberR_full] at h
    cases hf : s.1.findIdx? (· == e) with
    | none => rw [hf] at h; cases h
    | some k =>
      rw [hf] at h
      obtain ⟨h1, _, _⟩ := List.findIdx?_eq_some_iff_getElem.1 hf
      dsimp only at h
      split at h
      · cases h
      · rename_i hk
        obtain ⟨n', hn, e'⟩ := Option.map_eq_some_iff.1 h
        cases e'
        have hs := val_small (s := s.1.take k) (by rw [List.length_take]; omega)
        have hv := numS_val hn
        unfold valS at hv
        refine ⟨by omega, by omega, ?_, ?_, by simpa using hb⟩
        · split at hv <;> omega
        · split at hv <;> omega
end Go.Proofs.YtmgkeippepeggaaGreatDoor
/- Chapter 09: the library's readers of numbers, as contracts. -/
namespace Go.Proofs.YtmgkeippepeggaaGreatDoor
open Go Go.SL Go.Lib Go.RowKit
theorem bytesOf_self (l : List UInt8) : bytesOf (l.map fun b => (b.toNat : Int)) = l := by
  unfold bytesOf
  rw [List.map_map]
  conv => rhs; rw [← List.map_id l]
  exact List.map_congr_left fun b _ => by simp
section
open Go.Shelf
set_option maxHeartbeats 1000000 in
set_option maxRecDepth 100000 in
/-- bytes.IndexByte of no bytes, whatever room there is said to be. -/
theorem indexByte_nilc {P : Program} {ρ : Ren} (L : Lays.n187 P ρ) (c : Nat) (cv : Int) (w : World) :
    Calls P (ρ.f 187) #[.slice none 0 c, .int .u8 cv] w fun e w' => e = .returned (.int .i64 (-1)) ∧ w' = w := by
  have t3 := L.t3; have t5 := L.t5; have t37 := L.t37
  have a3 := L.a3; have a5 := L.a5; have a37 := L.a37
  have mixed := L.mixed; have z3 := L.z3; have v3 := L.v3; have z5 := L.z5; have v5 := L.v5; have z37 := L.z37; have v37 := L.v37
  go_enter L.f187, Body.n187_ntmps ρ
  go_wp2
  rw [run_callFunc_extern L.f255 (by kernel_rfl) (by kernel_rfl) (by kernel_rfl) (e := Extern.BytealgIndexByte.indexByte) (by kernel_rfl), Lib.run_indexByteNil w 0 c cv]
  simp only [Result.andThen]
  rw [Oper.upon_value]
  go_wp2
  go_ret
  exact ⟨rfl, rfl⟩
end
theorem indexByte_con (v : Value) (l : List UInt8) (e : UInt8) : Con Tryz.prog 85 [v, .int .u8 e.toNat] [Sl eByte v l] (γ := Unit) (fun _ => .int .i64 (indexByte l e)) (fun _ => True) (fun _ => []) :=
  con_pure fun w O hs => by
    obtain ⟨O1, _, _, h, _⟩ := hs
    have hcv : (((e.toNat : Nat) : Int)).toNat.toUInt8 = e := by simp
    obtain ⟨a, cap, rfl, h1, h2, h3⟩ := h
    have some_case : ∀ p : Addr, (∀ i, i < l.length → w.cell? (p.add i) = some (.int .u8 ((l.map fun b => (b.toNat : Int)).getD i 0))) → Calls Tryz.prog 85 [Value.slice (some p) l.length cap, .int .u8 e.toNat].toArray w fun r w' => r = .returned (.int .i64 (indexByte l e)) ∧ w' = w := fun p hc => by
      have := Go.Proofs.Any.bytes_IndexByte_at Tryz.lays187 p l.length cap (l.map fun b => (b.toNat : Int)) e.toNat w (by simp) hc
      rwa [bytesOf_self, hcv] at this
    rcases h3 with ⟨hn, rfl⟩ | ⟨b, off, cs, rfl, _, hr, hc⟩
    · cases a with
      | none => exact indexByte_nilc Tryz.lays187 cap e.toNat w
      | some p => exact some_case p fun i hi => absurd hi (Nat.not_lt_zero _)
    · rw [eByte_rows] at hr
      subst hr
      refine some_case ⟨b, off, none⟩ fun i hi => ?_
      rw [add_plain]
      refine hc i _ ?_
      rw [List.getElem?_map, List.getElem?_eq_getElem hi]; simp [List.getD_eq_getElem?_getD, List.getElem?_eq_getElem hi]
theorem itoa_con (n : Int) (h : -9223372036854775808 ≤ n ∧ n ≤ 9223372036854775807) : Con Tryz.prog 87 [.int .i64 n] [G3] (γ := Unit) (fun _ => .string (sB (itoa n))) (fun _ => True) (fun _ => []) :=
  con_below fun w _ hs => (Tryz.strconv_Itoa n h.1 h.2 w (tab_is Has.here hs)).mono fun e w' ⟨he, k, os, hw⟩ => ⟨⟨(), he, trivial⟩, by
    subst hw
    exact ⟨rfl, rfl, rfl, by simp [Go.Sort.grow, World.drewN], fun j hj => by
      simp only [Go.Sort.grow, World.drewN]
      rw [Array.getElem?_append_left hj]⟩⟩
/-- What the first error variable holds. -/
abbrev G1 (te : TypeId) (pe : Value) : A := BlkR 1 129 [.iface te pe]
theorem below_bytes (w : World) (e : TypeId) (t : ByteArray) : Below w.heap.size w (bytesWorld w e t) := by
  have h1 : Below w.heap.size w (w.drew.alloc (.cells (bytesCells w e t) e)) := ((Below.refl _ _).drew).alloc (Nat.le_refl _) _
  unfold bytesWorld World.freeze
  split
  · exact h1
  · exact h1.trans ⟨rfl, rfl, rfl, by simp, fun k hk => by
      show (Array.modify _ _ _)[k]? = _
      rw [Array.getElem?_modify, if_neg (show ¬ (w.heap.size = k) from by omega)]⟩
theorem atoi_con (s : List UInt8) (te : TypeId) (pe : Value) (hs : s.length ≤ 18) : Con Tryz.prog 86 [.string (sB s)] [G1 te pe] (γ := Int × Value) (fun g => .tuple #[.int .i64 g.1, g.2]) (fun g => (atoi s = some g.1 ∧ g.2 = .nilIface) ∨ (atoi s = none ∧ ∃ tp p, g.2 = .iface tp p)) (fun _ => []) :=
  con_below fun w _ hst => by
    have hsz := sB_size s
    have hl := sB_list s
    cases ha : atoi s with
    | some n =>
      exact (Tryz.strconv_Atoi (sB s) n (by omega) (by rw [hl]; exact ha) w).mono fun e w' ⟨he, t, hw⟩ => ⟨⟨(n, .nilIface), he, .inl ⟨rfl, rfl⟩⟩, by subst hw; exact below_bytes w 5 t⟩
    | none =>
      have hc : w.cell? ⟨1, 0, none⟩ = some (.iface te pe) := has_cell (T := 129) (cs := [.iface te pe]) (off := 0) Has.here rfl hst
      exact (Tryz.strconv_Atoi_syntax (sB s) (by omega) (by rw [hl, atoiAll_short s hs, ha]) (.iface te pe) w hc (.inr ⟨te, pe, rfl⟩)).mono fun e w' ⟨N, he, _, _, hb⟩ => ⟨⟨(0, .iface 158 (.pointer (some ⟨N, 0, none⟩))), he, .inr ⟨rfl, _, _, rfl⟩⟩, hb⟩
end Go.Proofs.YtmgkeippepeggaaGreatDoor
/- Chapter 09: the document's numerals, numbers, flags and texts. -/
namespace Go.Proofs.YtmgkeippepeggaaGreatDoor
open Go Go.SL Go.Lib
theorem nDig_le (u : Nat) : nDigits u ≤ u + 1 := by
  induction u using Nat.strongRecOn with
  | _ u ih =>
    by_cases h : u < 10
    · rw [nDigits_small h]; omega
    · rw [nDigits_big h]
      have := ih (u / 10) (by omega)
      omega
theorem itoa_le (n : Int) : (itoa n).length ≤ n.natAbs + 2 := by
  unfold itoa
  split
  · rw [List.length_cons, decDigits_length]
    have := nDig_le n.natAbs
    omega
  · rw [decDigits_length]
    have := nDig_le n.toNat
    omega
attribute [local irreducible] Cfg Kont StepK Val Con Qops Any Sl Own Blk BlkR Rd Pu ExA AllA Has Pick Ent Elem Beside Callable TI Lone OwnO AndA
set_option maxRecDepth 100000 in
theorem digits_con : ∀ (k : Nat) (n : Int), (if n < 0 then n.natAbs + 1 else n.natAbs) < k → -1152921504606846976 ≤ n → n ≤ 1152921504606846976 →
    Con Tryz.prog 84 [.int .i64 n] [] (γ := Unit) (fun _ => .string (sB (itoa n))) (fun _ => True) (fun _ => []) := by
  intro k
  induction k with
  | zero => intro n h; exact absurd h (Nat.not_lt_zero _)
  | succ k IH0 =>
    intro n hk h1 h2
    refine con_of Tryz.func84 rfl (dd rfl) fun w0 O0 => ?_
    refine c_seq ?_
    refine c_region ?_
    refine o_val (v_assign rfl) (dd rfl) ?_
    refine o_nil ?_
    refine c_seq ?_
    refine c_seq ?_
    refine c_region ?_
    refine o_val (v_move rfl) (dd rfl) ?_
    refine o_val (v_lt rfl rfl) (dd rfl) ?_
    refine o_nil ?_
    refine c_cond_p rfl (fun hn => ?_) (fun hn => ?_)
    · have hl := itoa_le (0 - n)
      have hz := sB_size (itoa (0 - n))
      have h45 : (⟨#[45]⟩ : ByteArray).size = 1 := rfl
      refine c_seq ?_
      refine c_region ?_
      refine o_val (v_move rfl) (dd rfl) ?_
      refine o_val ((by first | exact v_sub64 rfl rfl (by omega) | exact v_sub rfl rfl)) (dd rfl) ?_
      refine o_step (s_callf cl84 (IH0 (0 - n) (by rw [if_neg (by omega)]; rw [if_pos hn] at hk; omega) (by omega) (by omega)) rfl (dd rfl) (pXs (by repeat constructor)) fun _ _ => ?_)
      refine o_val (v_cat rfl rfl (by first | omega | (simp only [ByteArray.size_append]; omega))) (dd rfl) ?_
      refine o_val (v_assign rfl) (dd rfl) ?_
      refine o_nil ?_
      refine c_ret1 Tryz.func84 rfl rfl fun w O hS => ?_
      exact ⟨(), by rw [itoa_neg hn, show (45 :: itoa (0 - n)) = [45] ++ itoa (0 - n) from rfl, ← sB_app]; rfl, trivial, trivial⟩
    · rw [if_neg hn] at hk
      refine c_skip ?_
      refine c_seq ?_
      refine c_seq ?_
      refine c_region ?_
      refine o_val (v_move rfl) (dd rfl) ?_
      refine o_val (v_gt rfl rfl) (dd rfl) ?_
      refine o_nil ?_
      refine c_cond_p rfl (fun hg => ?_) (fun hg => ?_)
      · have hq : IntKind.i64.wrap (n.tdiv 10) = n / 10 := by
          rw [Int.tdiv_eq_ediv_of_nonneg (by omega), IntKind.wrap_i64]; omega
        have hm : n.tmod 10 = n % 10 := Int.tmod_eq_emod_of_nonneg (by omega)
        have hl1 := itoa_le (n / 10)
        have hl2 := itoa_le (n % 10)
        have hz1 := sB_size (itoa (n / 10))
        have hz2 := sB_size (itoa (n % 10))
        refine c_seq ?_
        refine c_region ?_
        refine o_val (v_move rfl) (dd rfl) ?_
        refine o_val (v_quo rfl rfl (by omega)) (dd rfl) ?_
        rw [hq]
        refine o_step (s_callf cl84 (IH0 (n / 10) (by rw [if_neg (by omega)]; omega) (by omega) (by omega)) rfl (dd rfl) (pXs (by repeat constructor)) fun _ _ => ?_)
        refine o_val (v_move rfl) (dd rfl) ?_
        refine o_val (v_rem rfl rfl (by omega)) (dd rfl) ?_
        rw [hm]
        refine o_step (s_callf cl84 (IH0 (n % 10) (by rw [if_neg (by omega)]; omega) (by omega) (by omega)) rfl (dd rfl) (pXs (by repeat constructor)) fun _ _ => ?_)
        refine o_val (v_cat rfl rfl (by first | omega | (simp only [ByteArray.size_append]; omega))) (dd rfl) ?_
        refine o_val (v_assign rfl) (dd rfl) ?_
        refine o_nil ?_
        refine c_ret1 Tryz.func84 rfl rfl fun w O hS => ?_
        exact ⟨(), by rw [itoa_more hg, ← sB_app], trivial, trivial⟩
      · have hb : IntKind.u8.wrap (48 + n) = ((UInt8.ofNat (48 + n.toNat)).toNat : Int) := by
          rw [ofNat_dig (by omega), IntKind.wrap_u8]; omega
        refine c_skip ?_
        refine c_seq ?_
        refine c_region ?_
        refine o_val (v_move rfl) (dd rfl) ?_
        refine o_val ((by first | exact v_add64 rfl rfl (by omega) | exact v_add rfl rfl)) (dd rfl) ?_
        refine o_val (v_conv_int Tryz.underlying3 Tryz.underlying5 rfl) (dd rfl) ?_
        rw [hb]
        refine o_step (s_buildSlice Tryz.underlying25 ti5 rfl rfl rfl (by decide) (by decide) (beside_byte [UInt8.ofNat (48 + n.toNat)]) rfl rfl (dd rfl) fun v1 => ?_)
        refine o_val (v_conv_bytes Tryz.underlying25 Tryz.underlying5 Tryz.underlying9 rfl (hX (by repeat constructor))) (dd rfl) ?_
        refine o_val (v_assign rfl) (dd rfl) ?_
        refine o_nil ?_
        refine c_ret1 Tryz.func84 rfl rfl fun w O hS => ?_
        exact ⟨(), by rw [itoa_one (by omega) (by omega)]; rfl, trivial, trivial⟩
theorem numB_eq {n c : Int} (h : clamp9 n = c) : sB (itoa c) ++ ⟨#[59]⟩ = sB (numB n) := by
  unfold numB
  rw [h, ← sB_app]; rfl
set_option maxRecDepth 100000 in
theorem numRef_con (n : Int) : Con Tryz.prog 43 [.int .i64 n] [] (γ := Unit) (fun _ => .string (sB (numB n))) (fun _ => True) (fun _ => []) := by
  refine con_of Tryz.func43 rfl (dd rfl) fun w0 O0 => ?_
  refine c_seq ?_
  refine c_region ?_
  refine o_val (v_assign rfl) (dd rfl) ?_
  refine o_nil ?_
  refine c_seq ?_
  refine c_seq ?_
  refine c_region ?_
  refine o_val (v_move rfl) (dd rfl) ?_
  refine o_val (v_gt rfl rfl) (dd rfl) ?_
  refine o_nil ?_
  refine c_cond_p rfl (fun h1 => ?_) (fun h1 => ?_)
  · refine c_region ?_
    refine o_val (v_assign rfl) (dd rfl) ?_
    refine o_nil ?_
    refine c_seq ?_
    refine c_seq ?_
    refine c_region ?_
    refine o_val (v_move rfl) (dd rfl) ?_
    refine o_val (v_lt rfl rfl) (dd rfl) ?_
    refine o_nil ?_
    refine c_cond_f rfl ?_
    refine c_skip ?_
    refine c_seq ?_
    refine c_region ?_
    refine o_val (v_move rfl) (dd rfl) ?_
    have hl := itoa_le (1099511627776 : Int)
    have hz := sB_size (itoa (1099511627776 : Int))
    have h59 : (⟨#[59]⟩ : ByteArray).size = 1 := rfl
    refine o_step (s_callf cl84 (digits_con (((1099511627776 : Int)).natAbs + 2) (1099511627776 : Int) (by split <;> omega) (by omega) (by omega)) rfl (dd rfl) (pXs (by repeat constructor)) fun _ _ => ?_)
    refine o_val (v_cat rfl rfl (by first | omega | (simp only [ByteArray.size_append]; omega))) (dd rfl) ?_
    refine o_val (v_assign rfl) (dd rfl) ?_
    refine o_nil ?_
    refine c_ret1 Tryz.func43 rfl rfl fun w O hS => ?_
    exact ⟨(), congrArg Value.string (numB_eq (by unfold clamp9 far9; omega)), trivial, trivial⟩
  · refine c_skip ?_
    refine c_seq ?_
    refine c_seq ?_
    refine c_region ?_
    refine o_val (v_move rfl) (dd rfl) ?_
    refine o_val (v_lt rfl rfl) (dd rfl) ?_
    refine o_nil ?_
    refine c_cond_p rfl (fun h2 => ?_) (fun h2 => ?_)
    · refine c_region ?_
      refine o_val (v_assign rfl) (dd rfl) ?_
      refine o_nil ?_
      refine c_seq ?_
      refine c_region ?_
      refine o_val (v_move rfl) (dd rfl) ?_
      have hl := itoa_le (-1099511627776 : Int)
      have hz := sB_size (itoa (-1099511627776 : Int))
      have h59 : (⟨#[59]⟩ : ByteArray).size = 1 := rfl
      refine o_step (s_callf cl84 (digits_con (((-1099511627776 : Int)).natAbs + 2) (-1099511627776 : Int) (by split <;> omega) (by omega) (by omega)) rfl (dd rfl) (pXs (by repeat constructor)) fun _ _ => ?_)
      refine o_val (v_cat rfl rfl (by first | omega | (simp only [ByteArray.size_append]; omega))) (dd rfl) ?_
      refine o_val (v_assign rfl) (dd rfl) ?_
      refine o_nil ?_
      refine c_ret1 Tryz.func43 rfl rfl fun w O hS => ?_
      exact ⟨(), congrArg Value.string (numB_eq (by unfold clamp9 far9; omega)), trivial, trivial⟩
    · refine c_skip ?_
      refine c_seq ?_
      refine c_region ?_
      refine o_val (v_move rfl) (dd rfl) ?_
      have hl := itoa_le n
      have hz := sB_size (itoa n)
      have h59 : (⟨#[59]⟩ : ByteArray).size = 1 := rfl
      refine o_step (s_callf cl84 (digits_con ((n).natAbs + 2) n (by split <;> omega) (by omega) (by omega)) rfl (dd rfl) (pXs (by repeat constructor)) fun _ _ => ?_)
      refine o_val (v_cat rfl rfl (by first | omega | (simp only [ByteArray.size_append]; omega))) (dd rfl) ?_
      refine o_val (v_assign rfl) (dd rfl) ?_
      refine o_nil ?_
      refine c_ret1 Tryz.func43 rfl rfl fun w O hS => ?_
      exact ⟨(), congrArg Value.string (numB_eq (by unfold clamp9 far9; omega)), trivial, trivial⟩
set_option maxRecDepth 100000 in
theorem flagRef_con (b : Bool) : Con Tryz.prog 44 [.bool b] [] (γ := Unit) (fun _ => .string (sB (flagB b))) (fun _ => True) (fun _ => []) := by
  rw [flag_eq]
  refine con_of Tryz.func44 rfl (dd rfl) fun w0 O0 => ?_
  refine c_seq ?_
  refine c_region ?_
  refine o_val (v_assign rfl) (dd rfl) ?_
  refine o_nil ?_
  refine c_seq ?_
  refine c_seq ?_
  refine c_region ?_
  refine o_val (v_move rfl) (dd rfl) ?_
  refine o_nil ?_
  refine c_cond rfl (fun h => ?_) (fun h => ?_)
  · subst h
    refine c_seq ?_
    refine c_region ?_
    refine o_val (v_assign rfl) (dd rfl) ?_
    refine o_nil ?_
    refine c_ret1 Tryz.func44 rfl rfl fun w O hS => ?_
    exact ⟨(), rfl, trivial, trivial⟩
  · subst h
    refine c_skip ?_
    refine c_seq ?_
    refine c_region ?_
    refine o_val (v_assign rfl) (dd rfl) ?_
    refine o_nil ?_
    refine c_ret1 Tryz.func44 rfl rfl fun w O hS => ?_
    exact ⟨(), rfl, trivial, trivial⟩
set_option maxRecDepth 100000 in
theorem textRef_con (s : ByteArray) (hs : s.size ≤ 140737488351232) : Con Tryz.prog 45 [.string s] [] (γ := Unit) (fun _ => .string (sB (textB s))) (fun _ => True) (fun _ => []) := by
  have hl := itoa_le s.size
  have hz := sB_size (itoa s.size)
  have h58 : (⟨#[58]⟩ : ByteArray).size = 1 := rfl
  have h44 : (⟨#[44]⟩ : ByteArray).size = 1 := rfl
  have h1 : (sB (itoa s.size) ++ ⟨#[58]⟩).size = (sB (itoa s.size)).size + 1 := ByteArray.size_append
  have h2 : (sB (itoa s.size) ++ ⟨#[58]⟩ ++ s).size = (sB (itoa s.size) ++ ⟨#[58]⟩).size + s.size := ByteArray.size_append
  refine con_of Tryz.func45 rfl (dd rfl) fun w0 O0 => ?_
  refine c_seq ?_
  refine c_region ?_
  refine o_val (v_assign rfl) (dd rfl) ?_
  refine o_nil ?_
  refine c_seq ?_
  refine c_region ?_
  refine o_val (v_move rfl) (dd rfl) ?_
  refine o_val (v_len_str Tryz.underlying9 rfl) (dd rfl) ?_
  refine o_step (s_callf cl84 (digits_con (s.size + 2) s.size (by split <;> omega) (by omega) (by omega)) rfl (dd rfl) (pXs (by repeat constructor)) fun _ _ => ?_)
  refine o_val (v_cat rfl rfl (by first | omega | (simp only [ByteArray.size_append]; omega))) (dd rfl) ?_
  refine o_val (v_move rfl) (dd rfl) ?_
  refine o_val (v_cat rfl rfl (by first | omega | (simp only [ByteArray.size_append]; omega))) (dd rfl) ?_
  refine o_val (v_cat rfl rfl (by first | omega | (simp only [ByteArray.size_append]; omega))) (dd rfl) ?_
  refine o_val (v_assign rfl) (dd rfl) ?_
  refine o_nil ?_
  refine c_ret1 Tryz.func45 rfl rfl fun w O hS => ?_
  exact ⟨(), congrArg Value.string (sB_text s).symm, trivial, trivial⟩
end Go.Proofs.YtmgkeippepeggaaGreatDoor
/- Chapter 09: the document's bytes of texts, changes and patches. -/
namespace Go.Proofs.YtmgkeippepeggaaGreatDoor
open Go Go.SL Go.Lib
abbrev ePr : Enc Pr9 := ePair (eInt .i64) (ePair eStr (ePair eStr (ePair (eInt .i64) (ePair (eSl eStr) (eSl eStr)))))
abbrev ePt : Enc Pt9 := ePair (eInt .i64) (ePair eStr (ePair (eSl (eInt .i64)) (eSl ePr)))
/-- Sizes of what is written: far below what wraps. -/
def TextsFit (l : List ByteArray) : Prop := l.length ≤ 1000000 ∧ ∀ x ∈ l, x.size ≤ 1000000
theorem textB_len (s : ByteArray) : (textB s).length ≤ 2 * s.size + 4 := by
  unfold textB
  simp only [List.length_append, List.length_cons, List.length_nil, ba_len]
  have := itoa_le s.size
  omega
theorem flat_le {α : Type} {put : α → List UInt8} {m : Nat} : ∀ {l : List α}, (∀ x ∈ l, (put x).length ≤ m) → ((l.map put).flatten).length ≤ l.length * m
  | [], _ => by simp
  | x :: l, h => by
    have h1 := h x (by simp)
    have h2 := flat_le (put := put) (m := m) (l := l) fun y hy => h y (List.mem_cons_of_mem _ hy)
    rw [List.map_cons, List.flatten_cons, List.length_append, List.length_cons, Nat.add_mul, Nat.one_mul]
    omega
theorem numB_len (n : Int) : (numB n).length ≤ 15 := by
  unfold numB
  rw [List.length_append]
  have := itoa_len (clamp_far n)
  simp; omega
attribute [local irreducible] Cfg Kont StepK Val Con Qops Any Sl Own Blk BlkR Rd Pu ExA AllA Has Pick Ent Elem Beside Callable TI Lone OwnO AndA
set_option maxRecDepth 100000 in
theorem textsRef_con (v : Value) (l : List ByteArray) (hl : TextsFit l) : Con Tryz.prog 46 [v] [Sl eStr v l] (γ := Unit) (fun _ => .string (sB (textsB l))) (fun _ => True) (fun _ => []) := by
  obtain ⟨hl1, hl2⟩ := hl
  refine con_of Tryz.func46 rfl (dd rfl) fun w0 O0 => ?_
  refine c_seq ?_
  refine c_region ?_
  refine o_val (v_assign rfl) (dd rfl) ?_
  refine o_nil ?_
  refine c_seq ?_
  refine c_region ?_
  refine o_val (v_move rfl) (dd rfl) ?_
  refine o_val ((by first | exact v_len_form Tryz.underlying28 rfl | exact v_len_sl Tryz.underlying28 rfl (hX (by repeat constructor)))) (dd rfl) ?_
  refine o_step (s_callf_keep cl43 (numRef_con (l.length : Int)) rfl (dd rfl) (rX (by repeat constructor)) (fun _ => sX) (fun _ _ => ?_))
  refine o_val (v_assign rfl) (dd rfl) ?_
  refine o_nil ?_
  refine c_seq ?_
  refine c_seq ?_
  refine c_region ?_
  refine o_val (v_assign rfl) (dd rfl) ?_
  refine o_nil ?_
  refine c_block ?_
  rw [show sB (numB l.length) = sB (numB l.length ++ ((l.take 0).map textB).flatten) by simp]
  refine c_loopR (γ := Nat) [(0, _), (2, _)] (fun k => l.length - k) (fun k => k ≤ l.length) (fun k => [(4, .int .i64 k), (3, .string (sB (numB l.length ++ ((l.take k).map textB).flatten)))]) (fun _ => [Sl eStr v l]) (0) (Nat.zero_le _) (by repeat (first | exact trivial | refine ⟨rfl, ?_⟩)) (eX (by repeat constructor)) ?_
  rintro k hk IH
  try dsimp only [List.cons_append, List.nil_append]
  refine c_seq ?_
  refine c_seq ?_
  refine c_region ?_
  refine o_val (v_move rfl) (dd rfl) ?_
  refine o_val (v_move rfl) (dd rfl) ?_
  refine o_val ((by first | exact v_len_form Tryz.underlying28 rfl | exact v_len_sl Tryz.underlying28 rfl (hX (by repeat constructor)))) (dd rfl) ?_
  refine o_val (v_lt rfl rfl) (dd rfl) ?_
  refine o_nil ?_
  refine c_cond_p rfl (fun hlt => ?_) (fun hlt => ?_)
  · have hk' : k < l.length := by omega
    have ht := textB_len (l[k]'hk')
    have hz1 := sB_size (numB l.length ++ ((l.take k).map textB).flatten)
    have hz2 := sB_size (textB (l[k]'hk'))
    have hn := numB_len l.length
    have hfl := flat_le (put := textB) (m := 2000004) (l := l.take k) fun x hx => by
      have := textB_len x
      have := hl2 x (List.mem_of_mem_take hx)
      omega
    have hkl : (l.take k).length ≤ 1000000 := by rw [List.length_take]; omega
    have hm : (l.take k).length * 2000004 ≤ 1000000 * 2000004 := Nat.mul_le_mul_right _ hkl
    rw [List.length_append] at hz1
    have hs := hl2 _ (List.getElem_mem hk')
    refine c_skip ?_
    refine c_seq ?_
    refine c_block ?_
    refine c_region ?_
    refine o_val (v_move rfl) (dd rfl) ?_
    refine o_val (v_move rfl) (dd rfl) ?_
    refine o_val (v_move rfl) (dd rfl) ?_
    refine o_val ((by first | exact v_indexAddrN Tryz.underlying28 ti9 rfl rfl (hX (by repeat constructor)) (by omega) | exact v_indexAddr Tryz.underlying28 ti9 rfl rfl (hX (by repeat constructor)) (by omega))) (dd rfl) ?_
    refine o_val (v_load_str lone9 rfl (by repeat (first | exact Elem.sl (List.getElem?_eq_getElem (by omega)) | exact Elem.own (List.getElem?_eq_getElem (by omega)) | exact Elem.ownO (List.getElem?_eq_getElem (by omega)) | apply Elem.there))) (dd rfl) ?_
    refine o_step (s_callf_keep cl45 (textRef_con (l[k]'hk') (by omega)) rfl (dd rfl) (rX (by repeat constructor)) (fun _ => sX) (fun _ _ => ?_))
    refine o_val (v_cat rfl rfl (by first | omega | (simp only [ByteArray.size_append]; omega))) (dd rfl) ?_
    refine o_val (v_assign rfl) (dd rfl) ?_
    refine o_nil ?_
    refine c_inBlock ?_
    refine c_region ?_
    refine o_val (v_move rfl) (dd rfl) ?_
    refine o_val ((by first | exact v_add64 rfl rfl (by omega) | exact v_add rfl rfl)) (dd rfl) ?_
    refine o_val (v_assign rfl) (dd rfl) ?_
    refine o_nil ?_
    rw [sB_app, List.append_assoc, ← flat_next textB hk']
    refine c_use (IH (k + 1) (by first | omega | (dsimp only; omega)) (by omega)) (by repeat (first | exact trivial | refine ⟨rfl, ?_⟩)) (eX (by repeat constructor))
  · have hke : k = l.length := by omega
    refine c_exit rfl ?_
    refine c_seq ?_
    refine c_region ?_
    refine o_val (v_move rfl) (dd rfl) ?_
    refine o_val (v_assign rfl) (dd rfl) ?_
    refine o_nil ?_
    refine c_ret1 Tryz.func46 rfl rfl fun w O hS => ?_
    exact ⟨(), by rw [hke, List.take_length]; rfl, trivial, trivial⟩
/-- Sizes of a change. -/
def PrFit (p : Pr9) : Prop := p.2.1.size ≤ 1000000 ∧ p.2.2.1.size ≤ 1000000 ∧ TextsFit p.2.2.2.2.1 ∧ TextsFit p.2.2.2.2.2
theorem textsB_len {l : List ByteArray} (h : TextsFit l) : (textsB l).length ≤ 2000004000015 := by
  have hfl := flat_le (put := textB) (m := 2000004) (l := l) fun x hx => by
    have := textB_len x
    have := h.2 x hx
    omega
  have hm : l.length * 2000004 ≤ 1000000 * 2000004 := Nat.mul_le_mul_right _ h.1
  have hn := numB_len l.length
  unfold textsB manyB
  rw [List.length_append]
  omega
set_option maxRecDepth 100000 in
theorem primRef_con (p : Pr9) (ov wv : Value) (hp : PrFit p) : Con Tryz.prog 47 [.agg #[.int .i64 p.1, .string p.2.1, .string p.2.2.1, .int .i64 p.2.2.2.1, ov, wv]] [Sl eStr ov p.2.2.2.2.1, Sl eStr wv p.2.2.2.2.2] (γ := Unit) (fun _ => .string (sB (primB p))) (fun _ => True) (fun _ => []) := by
  obtain ⟨hn, ht, ho, hw⟩ := hp
  have s1 := sB_size (numB p.1)
  have s2 := sB_size (textB p.2.1)
  have s3 := sB_size (textB p.2.2.1)
  have s4 := sB_size (numB p.2.2.2.1)
  have s5 := sB_size (textsB p.2.2.2.2.1)
  have s6 := sB_size (textsB p.2.2.2.2.2)
  have l1 := numB_len p.1
  have l2 := textB_len p.2.1
  have l3 := textB_len p.2.2.1
  have l4 := numB_len p.2.2.2.1
  have l5 := textsB_len ho
  have l6 := textsB_len hw
  refine con_of Tryz.func47 rfl (dd rfl) fun w0 O0 => ?_
  refine c_seq ?_
  refine c_region ?_
  refine o_step (s_box rfl (dd rfl) (fun b1 => ?_))
  refine o_val (v_assign rfl) (dd rfl) ?_
  refine o_nil ?_
  refine c_seq ?_
  refine c_held [BlkR b1 30 [.int .i64 p.1, .string p.2.1, .string p.2.2.1, .int .i64 p.2.2.2.1, ov, wv]] rfl ?_
  refine a_take 0 rfl (by kernel_rfl) (by kernel_rfl) (by kernel_rfl) (v_fieldAddrC 0 Tryz.underlying30 rfl ti3 (by decide) rfl) (eX (by repeat constructor)) (dd rfl) ?_
  refine a_take 1 rfl (by kernel_rfl) (by kernel_rfl) (by kernel_rfl) (v_load lone3 rfl (hX (by repeat constructor)) rfl) (eX (by repeat constructor)) (dd rfl) ?_
  refine a_take 3 rfl (by kernel_rfl) (by kernel_rfl) (by kernel_rfl) (v_fieldAddrC 1 Tryz.underlying30 rfl ti9 (by decide) rfl) (eX (by repeat constructor)) (dd rfl) ?_
  refine a_take 4 rfl (by kernel_rfl) (by kernel_rfl) (by kernel_rfl) (v_load lone9 rfl (hX (by repeat constructor)) rfl) (eX (by repeat constructor)) (dd rfl) ?_
  refine a_take 7 rfl (by kernel_rfl) (by kernel_rfl) (by kernel_rfl) (v_fieldAddrC 2 Tryz.underlying30 rfl ti9 (by decide) rfl) (eX (by repeat constructor)) (dd rfl) ?_
  refine a_take 8 rfl (by kernel_rfl) (by kernel_rfl) (by kernel_rfl) (v_load lone9 rfl (hX (by repeat constructor)) rfl) (eX (by repeat constructor)) (dd rfl) ?_
  refine a_take 11 rfl (by kernel_rfl) (by kernel_rfl) (by kernel_rfl) (v_fieldAddrC 3 Tryz.underlying30 rfl ti3 (by decide) rfl) (eX (by repeat constructor)) (dd rfl) ?_
  refine a_take 12 rfl (by kernel_rfl) (by kernel_rfl) (by kernel_rfl) (v_load lone3 rfl (hX (by repeat constructor)) rfl) (eX (by repeat constructor)) (dd rfl) ?_
  refine a_take 15 rfl (by kernel_rfl) (by kernel_rfl) (by kernel_rfl) (v_fieldAddrC 4 Tryz.underlying30 rfl ti28 (by decide) rfl) (eX (by repeat constructor)) (dd rfl) ?_
  refine a_take 16 rfl (by kernel_rfl) (by kernel_rfl) (by kernel_rfl) (v_load lone28 rfl (hX (by repeat constructor)) rfl) (eX (by repeat constructor)) (dd rfl) ?_
  refine a_take 19 rfl (by kernel_rfl) (by kernel_rfl) (by kernel_rfl) (v_fieldAddrC 5 Tryz.underlying30 rfl ti28 (by decide) rfl) (eX (by repeat constructor)) (dd rfl) ?_
  refine a_take 20 rfl (by kernel_rfl) (by kernel_rfl) (by kernel_rfl) (v_load lone28 rfl (hX (by repeat constructor)) rfl) (eX (by repeat constructor)) (dd rfl) ?_
  refine a_one 2 rfl (by kernel_rfl) (s_callf_keep cl43 (numRef_con p.1) rfl (dd rfl) (rX (by repeat constructor)) (fun _ => sX) (fun _ _ => a_on (eX (by repeat constructor)) ?_))
  refine a_one 5 rfl (by kernel_rfl) (s_callf_keep cl45 (textRef_con p.2.1 (by omega)) rfl (dd rfl) (rX (by repeat constructor)) (fun _ => sX) (fun _ _ => a_on (eX (by repeat constructor)) ?_))
  refine a_take 6 rfl (by kernel_rfl) (by kernel_rfl) (by kernel_rfl) (v_cat rfl rfl (by first | omega | (simp only [ByteArray.size_append]; omega))) (eX (by repeat constructor)) (dd rfl) ?_
  refine a_one 9 rfl (by kernel_rfl) (s_callf_keep cl45 (textRef_con p.2.2.1 (by omega)) rfl (dd rfl) (rX (by repeat constructor)) (fun _ => sX) (fun _ _ => a_on (eX (by repeat constructor)) ?_))
  refine a_take 10 rfl (by kernel_rfl) (by kernel_rfl) (by kernel_rfl) (v_cat rfl rfl (by first | omega | (simp only [ByteArray.size_append]; omega))) (eX (by repeat constructor)) (dd rfl) ?_
  refine a_one 13 rfl (by kernel_rfl) (s_callf_keep cl43 (numRef_con p.2.2.2.1) rfl (dd rfl) (rX (by repeat constructor)) (fun _ => sX) (fun _ _ => a_on (eX (by repeat constructor)) ?_))
  refine a_take 14 rfl (by kernel_rfl) (by kernel_rfl) (by kernel_rfl) (v_cat rfl rfl (by first | omega | (simp only [ByteArray.size_append]; omega))) (eX (by repeat constructor)) (dd rfl) ?_
  refine a_one 17 rfl (by kernel_rfl) (s_callf cl46 (textsRef_con ov p.2.2.2.2.1 ho) rfl (dd rfl) (pXs (by repeat constructor)) (fun _ _ => a_on (eX (by repeat constructor)) ?_))
  refine a_take 18 rfl (by kernel_rfl) (by kernel_rfl) (by kernel_rfl) (v_cat rfl rfl (by first | omega | (simp only [ByteArray.size_append]; omega))) (eX (by repeat constructor)) (dd rfl) ?_
  refine a_one 21 rfl (by kernel_rfl) (s_callf cl46 (textsRef_con wv p.2.2.2.2.2 hw) rfl (dd rfl) (pXs (by repeat constructor)) (fun _ _ => a_on (eX (by repeat constructor)) ?_))
  refine a_take 22 rfl (by kernel_rfl) (by kernel_rfl) (by kernel_rfl) (v_cat rfl rfl (by first | omega | (simp only [ByteArray.size_append]; omega))) (eX (by repeat constructor)) (dd rfl) ?_
  refine a_take 23 rfl (by kernel_rfl) (by kernel_rfl) (by kernel_rfl) (v_assign rfl) (eX (by repeat constructor)) (dd rfl) ?_
  refine a_done (by kernel_rfl) ?_ _
  refine c_ret1 Tryz.func47 rfl rfl fun w O hS => ?_
  exact ⟨(), by unfold primB; rw [← sB_app, ← sB_app, ← sB_app, ← sB_app, ← sB_app], trivial, trivial⟩
end Go.Proofs.YtmgkeippepeggaaGreatDoor
/- Chapter 09: the document's bytes of rows of changes, and of patches. -/
namespace Go.Proofs.YtmgkeippepeggaaGreatDoor
open Go Go.SL Go.Lib
def PrsFit (l : List Pr9) : Prop := l.length ≤ 100000 ∧ ∀ p ∈ l, PrFit p
theorem primB_len {p : Pr9} (hp : PrFit p) : (primB p).length ≤ 4000020000000 := by
  obtain ⟨hn, ht, ho, hw⟩ := hp
  have l1 := numB_len p.1
  have l2 := textB_len p.2.1
  have l3 := textB_len p.2.2.1
  have l4 := numB_len p.2.2.2.1
  have l5 := textsB_len ho
  have l6 := textsB_len hw
  unfold primB
  simp only [List.length_append]
  omega
/-- A change, told apart: its lines' slices. -/
theorem pr_open {z : Pr9} (w : World) (O : Perm) (c : List Value) (h : ePr.rd w O c z) : ∃ g : Value × Value, c = [.int .i64 z.1, .string z.2.1, .string z.2.2.1, .int .i64 z.2.2.2.1, g.1, g.2] ∧ Stars [Sl eStr g.1 z.2.2.2.2.1, Sl eStr g.2 z.2.2.2.2.2] w O := by
  obtain ⟨c1, d1, rfl, h1, c2, d2, rfl, h2, c3, d3, rfl, h3, c4, d4, rfl, h4, c5, c6, rfl, ⟨u, rfl, h5⟩, v, rfl, h6⟩ := h
  have e1 : c1 = [.int .i64 z.1] := h1
  have e2 : c2 = [.string z.2.1] := h2
  have e3 : c3 = [.string z.2.2.1] := h3
  have e4 : c4 = [.int .i64 z.2.2.2.1] := h4
  subst e1; subst e2; subst e3; subst e4
  have hm : ∀ b, min (O b) 1 ≤ O b := fun b => Nat.min_le_left _ _
  have hm1 : ∀ b, min (O b) 1 ≤ 1 := fun b => Nat.min_le_right _ _
  exact ⟨(u, v), rfl, fun b => min (O b) 1, fun b => min (O b) 1, ⟨hm, hm, fun b k => absurd (Nat.le_trans k (hm1 b)) (by decide), fun b k => absurd (Nat.le_trans k (hm1 b)) (by decide)⟩, SlP.dup h5,
    fun b => min (O b) 1, fun _ => 0, ⟨fun _ => Nat.le_refl _, fun _ => Nat.zero_le _, fun _ _ => rfl, fun _ h => by omega⟩, SlP.dup h6, trivial⟩
attribute [local irreducible] Cfg Kont StepK Val Con Qops Any Sl Own Blk BlkR Rd Pu ExA AllA Has Pick Ent Elem Beside Callable TI Lone OwnO AndA
set_option maxRecDepth 100000 in
theorem primsRef_con (v : Value) (l : List Pr9) (hl : PrsFit l) : Con Tryz.prog 49 [v] [Sl ePr v l] (γ := Unit) (fun _ => .string (sB (primsB l))) (fun _ => True) (fun _ => []) := by
  obtain ⟨hl1, hl2⟩ := hl
  refine con_of Tryz.func49 rfl (dd rfl) fun w0 O0 => ?_
  refine c_seq ?_
  refine c_region ?_
  refine o_val (v_assign rfl) (dd rfl) ?_
  refine o_nil ?_
  refine c_seq ?_
  refine c_region ?_
  refine o_val (v_move rfl) (dd rfl) ?_
  refine o_val ((by first | exact v_len_form Tryz.underlying31 rfl | exact v_len_sl Tryz.underlying31 rfl (hX (by repeat constructor)))) (dd rfl) ?_
  refine o_step (s_callf_keep cl43 (numRef_con (l.length : Int)) rfl (dd rfl) (rX (by repeat constructor)) (fun _ => sX) (fun _ _ => ?_))
  refine o_val (v_assign rfl) (dd rfl) ?_
  refine o_nil ?_
  refine c_seq ?_
  refine c_seq ?_
  refine c_region ?_
  refine o_val (v_assign rfl) (dd rfl) ?_
  refine o_nil ?_
  refine c_block ?_
  rw [show sB (numB l.length) = sB (numB l.length ++ ((l.take 0).map primB).flatten) by simp]
  refine c_loopR (γ := Nat) [(0, _), (2, _)] (fun k => l.length - k) (fun k => k ≤ l.length) (fun k => [(4, .int .i64 k), (3, .string (sB (numB l.length ++ ((l.take k).map primB).flatten)))]) (fun _ => [Sl ePr v l]) (0) (Nat.zero_le _) (by repeat (first | exact trivial | refine ⟨rfl, ?_⟩)) (eX (by repeat constructor)) ?_
  rintro k hk IH
  try dsimp only [List.cons_append, List.nil_append]
  refine c_seq ?_
  refine c_seq ?_
  refine c_region ?_
  refine o_val (v_move rfl) (dd rfl) ?_
  refine o_val (v_move rfl) (dd rfl) ?_
  refine o_val ((by first | exact v_len_form Tryz.underlying31 rfl | exact v_len_sl Tryz.underlying31 rfl (hX (by repeat constructor)))) (dd rfl) ?_
  refine o_val (v_lt rfl rfl) (dd rfl) ?_
  refine o_nil ?_
  refine c_cond_p rfl (fun hlt => ?_) (fun hlt => ?_)
  · have hk' : k < l.length := by omega
    have hpf := hl2 _ (List.getElem_mem hk')
    have ht := primB_len hpf
    have hz1 := sB_size (numB l.length ++ ((l.take k).map primB).flatten)
    have hz2 := sB_size (primB (l[k]'hk'))
    have hn := numB_len l.length
    have hfl := flat_le (put := primB) (m := 4000020000000) (l := l.take k) fun x hx => primB_len (hl2 x (List.mem_of_mem_take hx))
    have hkl : (l.take k).length ≤ 100000 := by rw [List.length_take]; omega
    have hm : (l.take k).length * 4000020000000 ≤ 100000 * 4000020000000 := Nat.mul_le_mul_right _ hkl
    rw [List.length_append] at hz1
    refine c_skip ?_
    refine c_seq ?_
    refine c_block ?_
    refine c_region ?_
    refine o_val (v_move rfl) (dd rfl) ?_
    refine o_val (v_move rfl) (dd rfl) ?_
    refine o_val (v_move rfl) (dd rfl) ?_
    refine o_val ((by first | exact v_indexAddrN Tryz.underlying31 ti30 rfl rfl (hX (by repeat constructor)) (by omega) | exact v_indexAddr Tryz.underlying31 ti30 rfl rfl (hX (by repeat constructor)) (by omega))) (dd rfl) ?_
    refine o_step (s_load_shape ⟨_, Tryz.underlying30⟩ ti30 rfl (dd rfl) (by repeat (first|exact el1 (by omega)|exact el2 (by omega)|exact el3 (by omega)|apply Elem.there)) (pr_open) (fun g => ?_))
    refine o_step (s_callf cl47 (primRef_con (l[k]'hk') g.1 g.2 hpf) rfl (dd rfl) (pXs (by repeat constructor)) fun _ _ => ?_)
    refine o_val (v_cat rfl rfl (by first | omega | (simp only [ByteArray.size_append]; omega))) (dd rfl) ?_
    refine o_val (v_assign rfl) (dd rfl) ?_
    refine o_nil ?_
    refine c_inBlock ?_
    refine c_region ?_
    refine o_val (v_move rfl) (dd rfl) ?_
    refine o_val ((by first | exact v_add64 rfl rfl (by omega) | exact v_add rfl rfl)) (dd rfl) ?_
    refine o_val (v_assign rfl) (dd rfl) ?_
    refine o_nil ?_
    rw [sB_app, List.append_assoc, ← flat_next primB hk']
    refine c_use (IH (k + 1) (by first | omega | (dsimp only; omega)) (by omega)) (by repeat (first | exact trivial | refine ⟨rfl, ?_⟩)) (eX (by repeat constructor))
  · have hke : k = l.length := by omega
    refine c_exit rfl ?_
    refine c_seq ?_
    refine c_region ?_
    refine o_val (v_move rfl) (dd rfl) ?_
    refine o_val (v_assign rfl) (dd rfl) ?_
    refine o_nil ?_
    refine c_ret1 Tryz.func49 rfl rfl fun w O hS => ?_
    exact ⟨(), by rw [hke, List.take_length]; rfl, trivial, trivial⟩
/-- Sizes of a patch. -/
def PtFit (p : Pt9) : Prop := p.2.1.size ≤ 1000000 ∧ p.2.2.1.length ≤ 1000000 ∧ PrsFit p.2.2.2
theorem primsB_len {l : List Pr9} (h : PrsFit l) : (primsB l).length ≤ 400002000000000015 := by
  have hfl := flat_le (put := primB) (m := 4000020000000) (l := l) fun x hx => primB_len (h.2 x hx)
  have hm : l.length * 4000020000000 ≤ 100000 * 4000020000000 := Nat.mul_le_mul_right _ h.1
  have hn := numB_len l.length
  unfold primsB manyB
  rw [List.length_append]
  omega
set_option maxRecDepth 100000 in
theorem patchRef_con (p : Pt9) (dv lv : Value) (hp : PtFit p) : Con Tryz.prog 51 [.agg #[.int .i64 p.1, .string p.2.1, dv, lv]] [Sl (eInt .i64) dv p.2.2.1, Sl ePr lv p.2.2.2] (γ := Unit) (fun _ => .string (sB (patchB p))) (fun _ => True) (fun _ => []) := by
  obtain ⟨hn, hd, hl⟩ := hp
  have s1 := sB_size (numB p.1)
  have s2 := sB_size (textB p.2.1)
  have s3 := sB_size (numB p.2.2.1.length)
  have s4 := sB_size (primsB p.2.2.2)
  have l1 := numB_len p.1
  have l2 := textB_len p.2.1
  have l3 := numB_len p.2.2.1.length
  have l4 := primsB_len hl
  refine con_of Tryz.func51 rfl (dd rfl) fun w0 O0 => ?_
  refine c_seq ?_
  refine c_region ?_
  refine o_step (s_box rfl (dd rfl) (fun b1 => ?_))
  refine o_val (v_assign rfl) (dd rfl) ?_
  refine o_nil ?_
  refine c_seq ?_
  refine c_held [BlkR b1 34 [.int .i64 p.1, .string p.2.1, dv, lv], Sl (eInt .i64) dv p.2.2.1] rfl ?_
  refine a_take 0 rfl (by kernel_rfl) (by kernel_rfl) (by kernel_rfl) (v_fieldAddrC 0 Tryz.underlying34 rfl ti3 (by decide) rfl) (eX (by repeat constructor)) (dd rfl) ?_
  refine a_take 1 rfl (by kernel_rfl) (by kernel_rfl) (by kernel_rfl) (v_load lone3 rfl (hX (by repeat constructor)) rfl) (eX (by repeat constructor)) (dd rfl) ?_
  refine a_take 3 rfl (by kernel_rfl) (by kernel_rfl) (by kernel_rfl) (v_fieldAddrC 1 Tryz.underlying34 rfl ti9 (by decide) rfl) (eX (by repeat constructor)) (dd rfl) ?_
  refine a_take 4 rfl (by kernel_rfl) (by kernel_rfl) (by kernel_rfl) (v_load lone9 rfl (hX (by repeat constructor)) rfl) (eX (by repeat constructor)) (dd rfl) ?_
  refine a_take 7 rfl (by kernel_rfl) (by kernel_rfl) (by kernel_rfl) (v_fieldAddrC 2 Tryz.underlying34 rfl ti32 (by decide) rfl) (eX (by repeat constructor)) (dd rfl) ?_
  refine a_take 8 rfl (by kernel_rfl) (by kernel_rfl) (by kernel_rfl) (v_load lone32 rfl (hX (by repeat constructor)) rfl) (eX (by repeat constructor)) (dd rfl) ?_
  refine a_take 9 rfl (by kernel_rfl) (by kernel_rfl) (by kernel_rfl) ((by first | exact v_len_form Tryz.underlying32 rfl | exact v_len_sl Tryz.underlying32 rfl (hX (by repeat constructor)))) (eX (by repeat constructor)) (dd rfl) ?_
  refine a_one 2 rfl (by kernel_rfl) (s_callf_keep cl43 (numRef_con p.1) rfl (dd rfl) (rX (by repeat constructor)) (fun _ => sX) (fun _ _ => a_on (eX (by repeat constructor)) ?_))
  refine a_one 5 rfl (by kernel_rfl) (s_callf_keep cl45 (textRef_con p.2.1 (by omega)) rfl (dd rfl) (rX (by repeat constructor)) (fun _ => sX) (fun _ _ => a_on (eX (by repeat constructor)) ?_))
  refine a_take 6 rfl (by kernel_rfl) (by kernel_rfl) (by kernel_rfl) (v_cat rfl rfl (by first | omega | (simp only [ByteArray.size_append]; omega))) (eX (by repeat constructor)) (dd rfl) ?_
  refine a_one 10 rfl (by kernel_rfl) (s_callf_keep cl43 (numRef_con (p.2.2.1.length : Int)) rfl (dd rfl) (rX (by repeat constructor)) (fun _ => sX) (fun _ _ => a_on (eX (by repeat constructor)) ?_))
  refine a_take 11 rfl (by kernel_rfl) (by kernel_rfl) (by kernel_rfl) (v_cat rfl rfl (by first | omega | (simp only [ByteArray.size_append]; omega))) (eX (by repeat constructor)) (dd rfl) ?_
  refine a_take 12 rfl (by kernel_rfl) (by kernel_rfl) (by kernel_rfl) (v_assign rfl) (eX (by repeat constructor)) (dd rfl) ?_
  refine a_done (by kernel_rfl) ?_ _
  refine c_seq ?_
  refine c_seq ?_
  refine c_region ?_
  refine o_val (v_assign rfl) (dd rfl) ?_
  refine o_nil ?_
  refine c_block ?_
  rw [sB_app, sB_app, show sB (numB p.1 ++ textB p.2.1 ++ numB p.2.2.1.length) = sB (numB p.1 ++ textB p.2.1 ++ numB p.2.2.1.length ++ ((p.2.2.1.take 0).map numB).flatten) by simp]
  refine c_loopR (γ := Nat) [(1, _), (2, _)] (fun k => p.2.2.1.length - k) (fun k => k ≤ p.2.2.1.length) (fun k => [(4, .int .i64 k), (3, .string (sB (numB p.1 ++ textB p.2.1 ++ numB p.2.2.1.length ++ ((p.2.2.1.take k).map numB).flatten)))]) (fun _ => [Blk b1 34 [.int .i64 p.1, .string p.2.1, dv, lv], Sl (eInt .i64) dv p.2.2.1, Sl ePr lv p.2.2.2]) (0) (Nat.zero_le _) (by repeat (first | exact trivial | refine ⟨rfl, ?_⟩)) (eX (by repeat constructor)) ?_
  rintro k hk IH
  have hfl := flat_le (put := numB) (m := 15) (l := p.2.2.1.take k) fun x _ => numB_len x
  have hkl : (p.2.2.1.take k).length ≤ 1000000 := by rw [List.length_take]; omega
  have hz1 := sB_size (numB p.1 ++ textB p.2.1 ++ numB p.2.2.1.length ++ ((p.2.2.1.take k).map numB).flatten)
  rw [List.length_append, List.length_append, List.length_append] at hz1
  try dsimp only [List.cons_append, List.nil_append]
  refine c_seq ?_
  refine c_seq ?_
  refine c_region ?_
  refine o_val (v_move rfl) (dd rfl) ?_
  refine o_val (v_fieldAddrC 2 Tryz.underlying34 rfl ti32 (by decide) rfl) (dd rfl) ?_
  refine o_val (v_load lone32 rfl (hX (by repeat constructor)) rfl) (dd rfl) ?_
  refine o_val ((by first | exact v_len_form Tryz.underlying32 rfl | exact v_len_sl Tryz.underlying32 rfl (hX (by repeat constructor)))) (dd rfl) ?_
  refine o_val (v_lt rfl rfl) (dd rfl) ?_
  refine o_nil ?_
  refine c_cond_p rfl (fun hlt => ?_) (fun hlt => ?_)
  · have hk' : k < p.2.2.1.length := by omega
    have hz2 := sB_size (numB (p.2.2.1[k]'hk'))
    have ht := numB_len (p.2.2.1[k]'hk')
    refine c_skip ?_
    refine c_seq ?_
    refine c_block ?_
    refine c_region ?_
    refine o_val (v_move rfl) (dd rfl) ?_
    refine o_val (v_fieldAddrC 2 Tryz.underlying34 rfl ti32 (by decide) rfl) (dd rfl) ?_
    refine o_val (v_load lone32 rfl (hX (by repeat constructor)) rfl) (dd rfl) ?_
    refine o_val (v_move rfl) (dd rfl) ?_
    refine o_val ((by first | exact v_indexAddrN Tryz.underlying32 ti3 rfl rfl (hX (by repeat constructor)) (by omega) | exact v_indexAddr Tryz.underlying32 ti3 rfl rfl (hX (by repeat constructor)) (by omega))) (dd rfl) ?_
    refine o_val (v_load_int lone3 rfl (by repeat (first | exact Elem.sl (List.getElem?_eq_getElem (by omega)) | exact Elem.own (List.getElem?_eq_getElem (by omega)) | exact Elem.ownO (List.getElem?_eq_getElem (by omega)) | apply Elem.there))) (dd rfl) ?_
    refine o_step (s_callf_keep cl43 (numRef_con (p.2.2.1[k]'hk')) rfl (dd rfl) (rX (by repeat constructor)) (fun _ => sX) (fun _ _ => ?_))
    refine o_val (v_cat rfl rfl (by first | omega | (simp only [ByteArray.size_append]; omega))) (dd rfl) ?_
    refine o_val (v_assign rfl) (dd rfl) ?_
    refine o_nil ?_
    refine c_inBlock ?_
    refine c_region ?_
    refine o_val (v_move rfl) (dd rfl) ?_
    refine o_val ((by first | exact v_add64 rfl rfl (by omega) | exact v_add rfl rfl)) (dd rfl) ?_
    refine o_val (v_assign rfl) (dd rfl) ?_
    refine o_nil ?_
    rw [sB_app, List.append_assoc (numB p.1 ++ textB p.2.1 ++ numB p.2.2.1.length), ← flat_next numB hk']
    refine c_use (IH (k + 1) (by first | omega | (dsimp only; omega)) (by omega)) (by repeat (first | exact trivial | refine ⟨rfl, ?_⟩)) (eX (by repeat constructor))
  · have hke : k = p.2.2.1.length := by omega
    refine c_exit rfl ?_
    refine c_seq ?_
    refine c_region ?_
    refine o_val (v_move rfl) (dd rfl) ?_
    refine o_val (v_fieldAddrC 3 Tryz.underlying34 rfl ti31 (by decide) rfl) (dd rfl) ?_
    refine o_val (v_load lone31 rfl (hX (by repeat constructor)) rfl) (dd rfl) ?_
    refine o_step (s_callf cl49 (primsRef_con lv p.2.2.2 hl) rfl (dd rfl) (pXs (by repeat constructor)) fun _ _ => ?_)
    refine o_val (v_cat rfl rfl (by first | omega | (simp only [ByteArray.size_append]; omega))) (dd rfl) ?_
    refine o_val (v_assign rfl) (dd rfl) ?_
    refine o_nil ?_
    refine c_ret1 Tryz.func51 rfl rfl fun w O hS => ?_
    exact ⟨(), by unfold patchB manyB; rw [sB_app, hke, List.take_length]; simp only [List.append_assoc], trivial, trivial⟩
end Go.Proofs.YtmgkeippepeggaaGreatDoor
/- Chapter 09: numerals are appended. -/
namespace Go.Proofs.YtmgkeippepeggaaGreatDoor
open Go Go.SL Go.Lib
attribute [local irreducible] Cfg Kont StepK Val Con Qops Any Sl Own Blk BlkR Rd Pu ExA AllA Has Pick Ent Elem Beside Callable TI Lone OwnO AndA
set_option maxRecDepth 100000 in
theorem appendUint_con (v : Value) (l : List UInt8) (u : Nat) (hu : u < 9223372036854775808) (hl : l.length ≤ 140737488355000) : Con Tryz.prog 120 [v, .int .u64 u, .int .i64 10] [Own eByte 5 v l, G3] (γ := Value) (fun g => g) (fun _ => True) (fun g => [Own eByte 5 g (l ++ decDigits u)]) := by
  have hn20 := nDigits_le20 u (by omega)
  have hdl := decDigits_length u
  have hn24 : nDigits u ≤ 24 := by omega
  refine con_of Tryz.func120 rfl (dd rfl) fun w0 O0 => ?_
  refine c_seq ?_
  refine c_region ?_
  refine o_val (v_assign rfl) (dd rfl) ?_
  refine o_nil ?_
  refine c_seq ?_
  refine c_seq ?_
  refine c_region ?_
  refine o_val (v_move rfl) (dd rfl) ?_
  refine o_val (v_eq rfl rfl) (dd rfl) ?_
  refine o_nil ?_
  refine c_cond_t rfl ?_
  refine c_seq ?_
  refine c_seq ?_
  refine c_region ?_
  refine o_val (v_move rfl) (dd rfl) ?_
  refine o_val (v_lt rfl rfl) (dd rfl) ?_
  refine o_nil ?_
  refine c_cond_p rfl (fun h1 => ?_) (fun h1 => ?_)
  · have hsz := sB_size (decDigits u)
    have hli := sB_list (decDigits u)
    have hcv : IntKind.i64.wrap (u : Int) = (u : Int) := by rw [IntKind.wrap_i64]; omega
    refine c_seq ?_
    refine c_region ?_
    refine o_val (v_move rfl) (dd rfl) ?_
    refine o_val (v_move rfl) (dd rfl) ?_
    refine o_val (v_conv_int Tryz.underlying153 Tryz.underlying3 rfl) (dd rfl) ?_
    rw [hcv]
    refine o_step (s_callf_keep cl137 (small_con u (by omega)) rfl (dd rfl) (rX (by repeat constructor)) (fun _ => sX) (fun _ _ => ?_))
    refine o_step (s_append_str Tryz.underlying25 Tryz.underlying9 ti5 rfl rfl (dd rfl) (pX (by repeat constructor)) (by omega) fun v1 => ?_)
    refine o_val (v_assign rfl) (dd rfl) ?_
    refine o_nil ?_
    rw [hli]
    refine c_ret1 Tryz.func120 rfl rfl fun w O hS => ?_
    exact ⟨v1, rfl, trivial, Ent.get hS (eX (by repeat constructor))⟩
  · refine c_skip ?_
    refine c_seq ?_
    refine c_region ?_
    refine o_step (s_alloc ti172 (dd rfl) (fun b7 => ?_))
    refine o_nil ?_
    refine c_seq ?_
    refine c_region ?_
    refine o_val (v_move rfl) (dd rfl) ?_
    refine o_step (s_callf_keep cl138 (numDigits_con u (by omega) (by omega)) rfl (dd rfl) (rX (by repeat constructor)) (fun _ => sX) (fun _ _ => ?_))
    refine o_val (v_assign rfl) (dd rfl) ?_
    refine o_nil ?_
    refine c_seq ?_
    refine c_region ?_
    refine o_val (v_move rfl) (dd rfl) ?_
    refine o_val (v_slice_arr Tryz.underlying172 ti5 rfl rfl rfl (by omega)) (dd rfl) ?_
    refine o_val (v_move rfl) (dd rfl) ?_
    refine o_step (s_callf cl139 (fmt_con b7 (nDigits u) u (List.replicate 24 (Value.int .u8 0)) (by simp) (fun j hj => by rw [List.getElem?_replicate, if_pos hj]) rfl (by omega) (by omega)) rfl (dd rfl) (pXs (by repeat constructor)) fun _ _ => ?_)
    refine o_nil ?_
    refine c_seq ?_
    refine c_region ?_
    refine o_val (v_move rfl) (dd rfl) ?_
    refine o_val (v_move rfl) (dd rfl) ?_
    refine o_val (v_slice_arr Tryz.underlying172 ti5 rfl rfl rfl (by omega)) (dd rfl) ?_
    refine o_mk (bytes_sl hdl hn24 (by decide)) (pXs (by repeat constructor)) ?_
    refine o_step (s_append Tryz.underlying25 ti5 rfl (by decide) rfl rfl (dd rfl) (pB (by repeat constructor)) (pX (by repeat constructor)) rfl (by (first | omega | (simp only [maxLen, List.length_append, List.length_drop, List.length_take, List.length_nil, List.length_cons]; omega))) (by (first | omega | (simp only [maxLen, List.length_append, List.length_drop, List.length_take, List.length_nil, List.length_cons]; omega))) fun v2 => ?_)
    refine o_val (v_assign rfl) (dd rfl) ?_
    refine o_nil ?_
    refine c_ret1 Tryz.func120 rfl rfl fun w O hS => ?_
    exact ⟨v2, rfl, trivial, Ent.get hS (eX (by repeat constructor))⟩
set_option maxRecDepth 100000 in
theorem appendInt_con (v : Value) (l : List UInt8) (n : Int) (hn : -4611686018427387904 ≤ n ∧ n ≤ 4611686018427387904) (hl : l.length ≤ 140737488354000) : Con Tryz.prog 103 [v, .int .i64 n, .int .i64 10] [Own eByte 5 v l, G3] (γ := Value) (fun g => g) (fun _ => True) (fun g => [Own eByte 5 g (l ++ itoa n)]) := by
  refine con_of Tryz.func103 rfl (dd rfl) fun w0 O0 => ?_
  refine c_seq ?_
  refine c_region ?_
  refine o_val (v_assign rfl) (dd rfl) ?_
  refine o_nil ?_
  refine c_seq ?_
  refine c_region ?_
  refine o_val (v_move rfl) (dd rfl) ?_
  refine o_val (v_conv_int Tryz.underlying2 Tryz.underlying153 rfl) (dd rfl) ?_
  refine o_val (v_assign rfl) (dd rfl) ?_
  refine o_nil ?_
  refine c_seq ?_
  refine c_seq ?_
  refine c_region ?_
  refine o_val (v_move rfl) (dd rfl) ?_
  refine o_val (v_lt rfl rfl) (dd rfl) ?_
  refine o_nil ?_
  refine c_cond_p rfl (fun h0 => ?_) (fun h0 => ?_)
  · have hw : IntKind.u64.wrap (-IntKind.u64.wrap n) = ((n.natAbs : Nat) : Int) := by rw [IntKind.wrap_u64, IntKind.wrap_u64]; omega
    have hi : itoa n = [45] ++ decDigits n.natAbs := by unfold itoa; rw [if_pos h0]; rfl
    refine c_seq ?_
    refine c_region ?_
    refine o_val (v_move rfl) (dd rfl) ?_
    refine o_step (s_buildSlice Tryz.underlying25 ti5 rfl rfl rfl (by decide) (by decide) (beside_byte [45]) rfl rfl (dd rfl) fun v1 => ?_)
    refine o_step (s_append Tryz.underlying25 ti5 rfl (by decide) rfl rfl (dd rfl) (pB (by repeat constructor)) (pX (by repeat constructor)) rfl (by (first | omega | (simp only [maxLen, List.length_append, List.length_drop, List.length_take, List.length_nil, List.length_cons]; omega))) (by (first | omega | (simp only [maxLen, List.length_append, List.length_drop, List.length_take, List.length_nil, List.length_cons]; omega))) fun v2 => ?_)
    refine o_val (v_assign rfl) (dd rfl) ?_
    refine o_nil ?_
    refine c_region ?_
    refine o_val (v_move rfl) (dd rfl) ?_
    refine o_val (v_neg_u rfl) (dd rfl) ?_
    refine o_val (v_assign rfl) (dd rfl) ?_
    refine o_nil ?_
    refine c_seq ?_
    refine c_region ?_
    refine o_val (v_move rfl) (dd rfl) ?_
    refine o_val (v_move rfl) (dd rfl) ?_
    refine o_val (v_move rfl) (dd rfl) ?_
    rw [hw]
    refine o_step (s_callf cl120 (appendUint_con v2 (l ++ [45]) n.natAbs (by omega) (by simp; omega)) rfl (dd rfl) (pXs (by repeat constructor)) fun v3 _ => ?_)
    refine o_val (v_assign rfl) (dd rfl) ?_
    refine o_nil ?_
    rw [List.append_assoc, ← hi]
    refine c_ret1 Tryz.func103 rfl rfl fun w O hS => ?_
    exact ⟨v3, rfl, trivial, Ent.get hS (eX (by repeat constructor))⟩
  · have hw : IntKind.u64.wrap n = ((n.toNat : Nat) : Int) := by rw [IntKind.wrap_u64]; omega
    have hi : itoa n = decDigits n.toNat := by unfold itoa; rw [if_neg h0]
    refine c_skip ?_
    refine c_seq ?_
    refine c_region ?_
    refine o_val (v_move rfl) (dd rfl) ?_
    refine o_val (v_move rfl) (dd rfl) ?_
    refine o_val (v_move rfl) (dd rfl) ?_
    rw [hw]
    refine o_step (s_callf cl120 (appendUint_con v l n.toNat (by omega) (by omega)) rfl (dd rfl) (pXs (by repeat constructor)) fun v3 _ => ?_)
    refine o_val (v_assign rfl) (dd rfl) ?_
    refine o_nil ?_
    rw [← hi]
    refine c_ret1 Tryz.func103 rfl rfl fun w O hS => ?_
    exact ⟨v3, rfl, trivial, Ent.get hS (eX (by repeat constructor))⟩
set_option maxRecDepth 100000 in
theorem appendIntP_con (v : Value) (l : List UInt8) (n : Int) (hn : -4611686018427387904 ≤ n ∧ n ≤ 4611686018427387904) (hl : l.length ≤ 140737488354000) : Con Tryz.prog 77 [v, .int .i64 n, .int .i64 10] [Own eByte 5 v l, G3] (γ := Value) (fun g => g) (fun _ => True) (fun g => [Own eByte 5 g (l ++ itoa n)]) := by
  have hA := appendInt_con v l n hn hl
  refine con_of Tryz.func77 rfl (dd rfl) fun w0 O0 => ?_
  refine c_seq ?_
  refine c_region ?_
  refine o_val (v_assign rfl) (dd rfl) ?_
  refine o_nil ?_
  refine c_seq ?_
  refine c_region ?_
  refine o_val (v_move rfl) (dd rfl) ?_
  refine o_val (v_move rfl) (dd rfl) ?_
  refine o_val (v_move rfl) (dd rfl) ?_
  refine o_step (s_callf cl103 (hA) rfl (dd rfl) (pXs (by repeat constructor)) fun v3 _ => ?_)
  refine o_val (v_assign rfl) (dd rfl) ?_
  refine o_nil ?_
  refine c_ret1 Tryz.func77 rfl rfl fun w O hS => ?_
  exact ⟨v3, rfl, trivial, Ent.get hS (eX (by repeat constructor))⟩
end Go.Proofs.YtmgkeippepeggaaGreatDoor
/- Chapter 09: the program's writers. -/
namespace Go.Proofs.YtmgkeippepeggaaGreatDoor
open Go Go.SL Go.Lib
theorem flat_part {α : Type} (put : α → List UInt8) {l : List α} {k : Nat} (hk : k < l.length) : ((l.take k).map put).flatten.length + (put l[k]).length ≤ ((l.map put).flatten).length := by
  rw [← List.length_append, ← flat_next put hk]
  have h : (l.map put).flatten = ((l.take (k + 1)).map put).flatten ++ ((l.drop (k + 1)).map put).flatten := by rw [← List.flatten_append, ← List.map_append, List.take_append_drop]
  rw [h, List.length_append]; omega
abbrev ptr (b : Nat) : Value := .pointer (some ⟨b, 0, none⟩)
attribute [local irreducible] Cfg Kont StepK Val Con Qops Any Sl Own Blk BlkR Rd Pu ExA AllA Has Pick Ent Elem Beside Callable TI Lone OwnO AndA
set_option maxRecDepth 100000 in
theorem num_con (b : Nat) (v : Value) (l : List UInt8) (n : Int) (hn : -9223372036854775808 ≤ n ∧ n ≤ 9223372036854775807) (hl : l.length + (numB n).length ≤ 100000000000000) : Con Tryz.prog 32 [ptr b, .int .i64 n] [Blk b 27 [v], Own eByte 5 v l, G3] (γ := Value) (fun _ => .tuple #[]) (fun _ => True) (fun g => [Blk b 27 [g], Own eByte 5 g (l ++ numB n)]) := by
  have hc : min (max n (-1099511627776)) 1099511627776 = clamp9 n := by unfold clamp9 far9; rfl
  have hcf := clamp_far n
  unfold far9 at hcf
  have hnl : (numB n).length = (itoa (clamp9 n)).length + 1 := by unfold numB; simp
  refine con_of Tryz.func32 rfl (dd rfl) fun w0 O0 => ?_
  refine c_region ?_
  refine o_val (v_move rfl) (dd rfl) ?_
  refine o_val (v_move rfl) (dd rfl) ?_
  refine o_val (v_nilCheck rfl) (dd rfl) ?_
  refine o_val (v_fieldAddrC 0 Tryz.underlying27 rfl ti25 (by decide) rfl) (dd rfl) ?_
  refine o_val (v_load lone25 rfl (hX (by repeat constructor)) rfl) (dd rfl) ?_
  refine o_val (v_move rfl) (dd rfl) ?_
  refine o_val (v_max rfl rfl) (dd rfl) ?_
  refine o_val (v_min rfl rfl) (dd rfl) ?_
  rw [hc]
  refine o_step (s_callf cl77 (appendIntP_con v l (clamp9 n) (by omega) (by omega)) rfl (dd rfl) (pXs (by repeat constructor)) fun v1 _ => ?_)
  refine o_step (s_buildSlice Tryz.underlying25 ti5 rfl rfl rfl (by decide) (by decide) (beside_byte [59]) rfl rfl (dd rfl) fun v2 => ?_)
  refine o_step (s_append Tryz.underlying25 ti5 rfl (by decide) rfl rfl (dd rfl) (pB (by repeat constructor)) (pX (by repeat constructor)) rfl (by (first | omega | (simp only [maxLen, List.length_append, List.length_drop, List.length_take, List.length_nil, List.length_cons]; omega))) (by (first | omega | (simp only [maxLen, List.length_append, List.length_drop, List.length_take, List.length_nil, List.length_cons]; omega))) fun v3 => ?_)
  refine o_val (v_nilCheck rfl) (dd rfl) ?_
  refine o_val (v_fieldAddrC 0 Tryz.underlying27 rfl ti25 (by decide) rfl) (dd rfl) ?_
  refine o_step (s_store1 ti25 rfl rfl (by first | exact OneC.lit rfl | exact OneC.sl (hX (by repeat constructor)) ) (pB (by repeat constructor)) (by first | decide | exact Nat.le_of_ble_eq_true rfl | simp) (by first | (dsimp only [List.set_cons_succ, List.set_cons_zero]; first | done | exact rfl) | rfl) (?_))
  refine o_nil ?_
  refine c_end0 Tryz.func32 rfl fun w O hS => ?_
  exact ⟨v3, rfl, trivial, by unfold numB; rw [← List.append_assoc]; exact Ent.get hS (eX (by repeat constructor))⟩
theorem flagB_num (q : Bool) : flagB q = numB (if q then 1 else 0) := rfl
set_option maxRecDepth 100000 in
theorem flag_con (b : Nat) (v : Value) (l : List UInt8) (q : Bool) (hl : l.length + (flagB q).length ≤ 100000000000000) : Con Tryz.prog 33 [ptr b, .bool q] [Blk b 27 [v], Own eByte 5 v l, G3] (γ := Value) (fun _ => .tuple #[]) (fun _ => True) (fun g => [Blk b 27 [g], Own eByte 5 g (l ++ flagB q)]) := by
  have hN := fun n hn => num_con b v l n hn
  rw [flagB_num] at *
  refine con_of Tryz.func33 rfl (dd rfl) fun w0 O0 => ?_
  refine c_seq ?_
  refine c_region ?_
  refine o_val (v_assign rfl) (dd rfl) ?_
  refine o_nil ?_
  refine c_seq ?_
  refine c_seq ?_
  refine c_region ?_
  refine o_val (v_move rfl) (dd rfl) ?_
  refine o_nil ?_
  refine c_cond rfl (fun h => ?_) (fun h => ?_)
  · subst h
    refine c_region ?_
    refine o_val (v_assign rfl) (dd rfl) ?_
    refine o_nil ?_
    refine c_region ?_
    refine o_val (v_move rfl) (dd rfl) ?_
    refine o_val (v_move rfl) (dd rfl) ?_
    refine o_step (s_callf cl32 (hN 1 (by decide) hl) rfl (dd rfl) (pXs (by repeat constructor)) fun v1 _ => ?_)
    refine o_nil ?_
    refine c_end0 Tryz.func33 rfl fun w O hS => ?_
    exact ⟨v1, rfl, trivial, Ent.get hS (eX (by repeat constructor))⟩
  · subst h
    refine c_skip ?_
    refine c_region ?_
    refine o_val (v_move rfl) (dd rfl) ?_
    refine o_val (v_move rfl) (dd rfl) ?_
    refine o_step (s_callf cl32 (hN 0 (by decide) hl) rfl (dd rfl) (pXs (by repeat constructor)) fun v1 _ => ?_)
    refine o_nil ?_
    refine c_end0 Tryz.func33 rfl fun w O hS => ?_
    exact ⟨v1, rfl, trivial, Ent.get hS (eX (by repeat constructor))⟩
set_option maxRecDepth 100000 in
theorem text_con (b : Nat) (v : Value) (l : List UInt8) (s : ByteArray) (hl : l.length + (textB s).length ≤ 100000000000000) : Con Tryz.prog 34 [ptr b, .string s] [Blk b 27 [v], Own eByte 5 v l, G3] (γ := Value) (fun _ => .tuple #[]) (fun _ => True) (fun g => [Blk b 27 [g], Own eByte 5 g (l ++ textB s)]) := by
  have htl : (textB s).length = (itoa s.size).length + s.size + 2 := by unfold textB; simp; omega
  have hsl := ba_len s
  refine con_of Tryz.func34 rfl (dd rfl) fun w0 O0 => ?_
  refine c_seq ?_
  refine c_region ?_
  refine o_val (v_move rfl) (dd rfl) ?_
  refine o_val (v_move rfl) (dd rfl) ?_
  refine o_val (v_nilCheck rfl) (dd rfl) ?_
  refine o_val (v_fieldAddrC 0 Tryz.underlying27 rfl ti25 (by decide) rfl) (dd rfl) ?_
  refine o_val (v_load lone25 rfl (hX (by repeat constructor)) rfl) (dd rfl) ?_
  refine o_val (v_move rfl) (dd rfl) ?_
  refine o_val (v_len_str Tryz.underlying9 rfl) (dd rfl) ?_
  refine o_step (s_callf cl77 (appendIntP_con v l s.size (by omega) (by omega)) rfl (dd rfl) (pXs (by repeat constructor)) fun v1 _ => ?_)
  refine o_step (s_buildSlice Tryz.underlying25 ti5 rfl rfl rfl (by decide) (by decide) (beside_byte [58]) rfl rfl (dd rfl) fun v2 => ?_)
  refine o_step (s_append Tryz.underlying25 ti5 rfl (by decide) rfl rfl (dd rfl) (pB (by repeat constructor)) (pX (by repeat constructor)) rfl (by (first | omega | (simp only [maxLen, List.length_append, List.length_drop, List.length_take, List.length_nil, List.length_cons]; omega))) (by (first | omega | (simp only [maxLen, List.length_append, List.length_drop, List.length_take, List.length_nil, List.length_cons]; omega))) fun v3 => ?_)
  refine o_val (v_nilCheck rfl) (dd rfl) ?_
  refine o_val (v_fieldAddrC 0 Tryz.underlying27 rfl ti25 (by decide) rfl) (dd rfl) ?_
  refine o_step (s_store1 ti25 rfl rfl (by first | exact OneC.lit rfl | exact OneC.sl (hX (by repeat constructor)) ) (pB (by repeat constructor)) (by first | decide | exact Nat.le_of_ble_eq_true rfl | simp) (by first | (dsimp only [List.set_cons_succ, List.set_cons_zero]; first | done | exact rfl) | rfl) (?_))
  refine o_nil ?_
  refine c_region ?_
  refine o_val (v_move rfl) (dd rfl) ?_
  refine o_val (v_move rfl) (dd rfl) ?_
  refine o_val (v_nilCheck rfl) (dd rfl) ?_
  refine o_val (v_fieldAddrC 0 Tryz.underlying27 rfl ti25 (by decide) rfl) (dd rfl) ?_
  refine o_val (v_load lone25 rfl (hX (by repeat constructor)) rfl) (dd rfl) ?_
  refine o_val (v_move rfl) (dd rfl) ?_
  refine o_step (s_append_str Tryz.underlying25 Tryz.underlying9 ti5 rfl rfl (dd rfl) (pX (by repeat constructor)) (by simp; omega) fun v4 => ?_)
  refine o_step (s_buildSlice Tryz.underlying25 ti5 rfl rfl rfl (by decide) (by decide) (beside_byte [44]) rfl rfl (dd rfl) fun v5 => ?_)
  refine o_step (s_append Tryz.underlying25 ti5 rfl (by decide) rfl rfl (dd rfl) (pB (by repeat constructor)) (pX (by repeat constructor)) rfl (by (first | omega | (simp only [maxLen, List.length_append, List.length_drop, List.length_take, List.length_nil, List.length_cons]; omega))) (by (first | omega | (simp only [maxLen, List.length_append, List.length_drop, List.length_take, List.length_nil, List.length_cons]; omega))) fun v6 => ?_)
  refine o_val (v_nilCheck rfl) (dd rfl) ?_
  refine o_val (v_fieldAddrC 0 Tryz.underlying27 rfl ti25 (by decide) rfl) (dd rfl) ?_
  refine o_step (s_store1 ti25 rfl rfl (by first | exact OneC.lit rfl | exact OneC.sl (hX (by repeat constructor)) ) (pB (by repeat constructor)) (by first | decide | exact Nat.le_of_ble_eq_true rfl | simp) (by first | (dsimp only [List.set_cons_succ, List.set_cons_zero]; first | done | exact rfl) | rfl) (?_))
  refine o_nil ?_
  refine c_end0 Tryz.func34 rfl fun w O hS => ?_
  exact ⟨v6, rfl, trivial, by
    have e : l ++ textB s = l ++ itoa s.size ++ [58] ++ s.data.toList ++ [44] := by unfold textB; simp only [List.append_assoc]
    rw [e]; exact Ent.get hS (eX (by repeat constructor))⟩
set_option maxRecDepth 100000 in
theorem eachText_con (b : Nat) (v u : Value) (l : List UInt8) (xs : List ByteArray) (hx : xs.length ≤ 140737488355328) (hl : l.length + (textsB xs).length ≤ 100000000000000) : Con Tryz.prog 78 [ptr b, u, .func (.func 34) #[ptr b] #[]] [Blk b 27 [v], Own eByte 5 v l, G3, Sl eStr u xs] (γ := Value) (fun _ => .tuple #[]) (fun _ => True) (fun g => [Blk b 27 [g], Own eByte 5 g (l ++ textsB xs)]) := by
  unfold textsB at *
  refine con_of Tryz.func78 rfl (dd rfl) fun w0 O0 => ?_
  refine c_seq ?_
  refine c_region ?_
  refine o_val (v_move rfl) (dd rfl) ?_
  refine o_val (v_move rfl) (dd rfl) ?_
  refine o_val ((by first | exact v_len_form Tryz.underlying28 rfl | exact v_len_sl Tryz.underlying28 rfl (hX (by repeat constructor)))) (dd rfl) ?_
  have hnum : (manyB textB xs).length = (numB xs.length).length + ((xs.map textB).flatten).length := by unfold manyB; simp
  refine o_step (s_callf cl32 (num_con b v l xs.length (by omega) (by omega)) rfl (dd rfl) (pXs (by repeat constructor)) fun v1 _ => ?_)
  refine o_nil ?_
  refine c_seq ?_
  refine c_region ?_
  refine o_val (v_move rfl) (dd rfl) ?_
  refine o_val ((by first | exact v_len_form Tryz.underlying28 rfl | exact v_len_sl Tryz.underlying28 rfl (hX (by repeat constructor)))) (dd rfl) ?_
  refine o_val (v_move rfl) (dd rfl) ?_
  refine o_nil ?_
  refine c_block ?_
  rw [show l ++ numB xs.length = l ++ (numB xs.length ++ ((xs.take 0).map textB).flatten) by simp]
  refine c_loopR (γ := Nat × Value) [(2, _), (12, _), (13, _)] (fun g => xs.length - g.1) (fun g => g.1 ≤ xs.length) (fun g => [(14, .int .i64 g.1)]) (fun g => [Blk b 27 [g.2], Own eByte 5 g.2 (l ++ (numB xs.length ++ ((xs.take g.1).map textB).flatten)), G3, Sl eStr u xs]) ((0, v1)) (Nat.zero_le _) (by repeat (first | exact trivial | refine ⟨rfl, ?_⟩)) (eX (by repeat constructor)) ?_
  rintro ⟨k, r⟩ hk IH
  dsimp only at hk ⊢
  try dsimp only [List.cons_append, List.nil_append]
  refine c_seq ?_
  refine c_region ?_
  refine o_val (v_lt rfl rfl) (dd rfl) ?_
  refine o_nil ?_
  refine c_seq ?_
  refine c_cond_p rfl (fun hlt => ?_) (fun hlt => ?_)
  · have hk' : k < xs.length := by omega
    have hfp := flat_part textB hk'
    refine c_skip ?_
    refine c_seq ?_
    refine c_block ?_
    refine c_seq ?_
    refine c_region ?_
    refine o_val ((by first | exact v_indexAddrN Tryz.underlying28 ti9 rfl rfl (hX (by repeat constructor)) (by omega) | exact v_indexAddr Tryz.underlying28 ti9 rfl rfl (hX (by repeat constructor)) (by omega))) (dd rfl) ?_
    refine o_val (v_load_str lone9 rfl (by repeat (first | exact Elem.sl (List.getElem?_eq_getElem (by omega)) | exact Elem.own (List.getElem?_eq_getElem (by omega)) | exact Elem.ownO (List.getElem?_eq_getElem (by omega)) | apply Elem.there))) (dd rfl) ?_
    refine o_val (v_assign rfl) (dd rfl) ?_
    refine o_nil ?_
    refine c_region ?_
    refine o_val (v_move rfl) (dd rfl) ?_
    refine o_val (v_move rfl) (dd rfl) ?_
    refine o_step (s_call cl34 (text_con b r (l ++ (numB xs.length ++ ((xs.take k).map textB).flatten)) xs[k] (by simp only [List.length_append]; omega)) (first := [ptr b]) (cap := []) rfl rfl (by rfl) (dd rfl) (pXs (by repeat constructor)) fun v2 _ => ?_)
    refine o_nil ?_
    refine c_inBlock ?_
    refine c_region ?_
    refine o_val ((by first | exact v_add64 rfl rfl (by omega) | exact v_add rfl rfl)) (dd rfl) ?_
    refine o_val (v_move rfl) (dd rfl) ?_
    refine o_nil ?_
    rw [List.append_assoc, List.append_assoc, ← flat_next textB hk']
    refine c_use (IH ((k + 1, v2)) (by first | omega | (dsimp only; omega)) (by dsimp only; omega)) (by repeat (first | exact trivial | refine ⟨rfl, ?_⟩)) (eX (by repeat constructor))
  · have hke : k = xs.length := by omega
    refine c_exit rfl ?_
    refine c_end0 Tryz.func78 rfl fun w O hS => ?_
    exact ⟨r, rfl, trivial, by unfold manyB; rw [hke, List.take_length] at hS; exact Ent.get hS (eX (by repeat constructor))⟩
set_option maxRecDepth 100000 in
theorem texts_con (b : Nat) (v u : Value) (l : List UInt8) (xs : List ByteArray) (hx : xs.length ≤ 140737488355328) (hl : l.length + (textsB xs).length ≤ 100000000000000) : Con Tryz.prog 35 [ptr b, u] [Blk b 27 [v], Own eByte 5 v l, G3, Sl eStr u xs] (γ := Value) (fun _ => .tuple #[]) (fun _ => True) (fun g => [Blk b 27 [g], Own eByte 5 g (l ++ textsB xs)]) := by
  have hE := eachText_con b v u l xs hx hl
  refine con_of Tryz.func35 rfl (dd rfl) fun w0 O0 => ?_
  refine c_region ?_
  refine o_val (v_move rfl) (dd rfl) ?_
  refine o_val (v_move rfl) (dd rfl) ?_
  refine o_val (v_move rfl) (dd rfl) ?_
  refine o_val (v_makeFunc rfl rfl) (dd rfl) ?_
  refine o_step (s_callf cl78 (hE) rfl (dd rfl) (pXs (by repeat constructor)) fun v1 _ => ?_)
  refine o_nil ?_
  refine c_end0 Tryz.func35 rfl fun w O hS => ?_
  exact ⟨v1, rfl, trivial, Ent.get hS (eX (by repeat constructor))⟩
/-- Rows that can be counted. -/
def CountP (p : Pr9) : Prop := (-9223372036854775808 ≤ p.1 ∧ p.1 ≤ 9223372036854775807) ∧ (-9223372036854775808 ≤ p.2.2.2.1 ∧ p.2.2.2.1 ≤ 9223372036854775807) ∧ p.2.2.2.2.1.length ≤ 140737488355328 ∧ p.2.2.2.2.2.length ≤ 140737488355328
set_option maxRecDepth 100000 in
theorem prim_con (b : Nat) (v ov wv : Value) (l : List UInt8) (p : Pr9) (hp : CountP p) (hl : l.length + (primB p).length ≤ 100000000000000) : Con Tryz.prog 36 [ptr b, .agg #[.int .i64 p.1, .string p.2.1, .string p.2.2.1, .int .i64 p.2.2.2.1, ov, wv]] [Blk b 27 [v], Own eByte 5 v l, G3, Sl eStr ov p.2.2.2.2.1, Sl eStr wv p.2.2.2.2.2] (γ := Value) (fun _ => .tuple #[]) (fun _ => True) (fun g => [Blk b 27 [g], Own eByte 5 g (l ++ primB p)]) := by
  obtain ⟨k, n, t, a, o, z⟩ := p
  obtain ⟨hk, ha, ho, hw⟩ := hp
  dsimp only at hk ha ho hw ⊢
  have hle : (primB (k, n, t, a, o, z)).length = (numB k).length + (textB n).length + (textB t).length + (numB a).length + (textsB o).length + (textsB z).length := by unfold primB; simp only [List.length_append]
  refine con_of Tryz.func36 rfl (dd rfl) fun w0 O0 => ?_
  refine c_seq ?_
  refine c_region ?_
  refine o_step (s_box rfl (dd rfl) (fun b3 => ?_))
  refine o_nil ?_
  refine c_seq ?_
  refine c_region ?_
  refine o_val (v_move rfl) (dd rfl) ?_
  refine o_val (v_fieldAddrC 0 Tryz.underlying58 rfl ti3 (by decide) rfl) (dd rfl) ?_
  refine o_val (v_load lone3 rfl (hX (by repeat constructor)) rfl) (dd rfl) ?_
  refine o_step (s_callf cl32 (num_con b v l k hk (by omega)) rfl (dd rfl) (pXs (by repeat constructor)) fun v1 _ => ?_)
  refine o_nil ?_
  refine c_seq ?_
  refine c_region ?_
  refine o_val (v_move rfl) (dd rfl) ?_
  refine o_val (v_fieldAddrC 1 Tryz.underlying58 rfl ti9 (by decide) rfl) (dd rfl) ?_
  refine o_val (v_load lone9 rfl (hX (by repeat constructor)) rfl) (dd rfl) ?_
  refine o_step (s_callf cl34 (text_con b v1 (l ++ numB k) n (by simp only [List.length_append]; omega)) rfl (dd rfl) (pXs (by repeat constructor)) fun v2 _ => ?_)
  refine o_nil ?_
  refine c_seq ?_
  refine c_region ?_
  refine o_val (v_move rfl) (dd rfl) ?_
  refine o_val (v_fieldAddrC 2 Tryz.underlying58 rfl ti9 (by decide) rfl) (dd rfl) ?_
  refine o_val (v_load lone9 rfl (hX (by repeat constructor)) rfl) (dd rfl) ?_
  refine o_step (s_callf cl34 (text_con b v2 (l ++ numB k ++ textB n) t (by simp only [List.length_append]; omega)) rfl (dd rfl) (pXs (by repeat constructor)) fun v3 _ => ?_)
  refine o_nil ?_
  refine c_seq ?_
  refine c_region ?_
  refine o_val (v_move rfl) (dd rfl) ?_
  refine o_val (v_fieldAddrC 3 Tryz.underlying58 rfl ti3 (by decide) rfl) (dd rfl) ?_
  refine o_val (v_load lone3 rfl (hX (by repeat constructor)) rfl) (dd rfl) ?_
  refine o_step (s_callf cl32 (num_con b v3 (l ++ numB k ++ textB n ++ textB t) a ha (by simp only [List.length_append]; omega)) rfl (dd rfl) (pXs (by repeat constructor)) fun v4 _ => ?_)
  refine o_nil ?_
  refine c_seq ?_
  refine c_region ?_
  refine o_val (v_move rfl) (dd rfl) ?_
  refine o_val (v_fieldAddrC 4 Tryz.underlying58 rfl ti28 (by decide) rfl) (dd rfl) ?_
  refine o_val (v_load lone28 rfl (hX (by repeat constructor)) rfl) (dd rfl) ?_
  refine o_step (s_callf cl35 (texts_con b v4 ov (l ++ numB k ++ textB n ++ textB t ++ numB a) o ho (by simp only [List.length_append]; omega)) rfl (dd rfl) (pXs (by repeat constructor)) fun v5 _ => ?_)
  refine o_nil ?_
  refine c_region ?_
  refine o_val (v_move rfl) (dd rfl) ?_
  refine o_val (v_fieldAddrC 5 Tryz.underlying58 rfl ti28 (by decide) rfl) (dd rfl) ?_
  refine o_val (v_load lone28 rfl (hX (by repeat constructor)) rfl) (dd rfl) ?_
  refine o_step (s_callf cl35 (texts_con b v5 wv (l ++ numB k ++ textB n ++ textB t ++ numB a ++ textsB o) z hw (by simp only [List.length_append]; omega)) rfl (dd rfl) (pXs (by repeat constructor)) fun v6 _ => ?_)
  refine o_nil ?_
  refine c_end0 Tryz.func36 rfl fun w O hS => ?_
  exact ⟨v6, rfl, trivial, by
    have e : l ++ primB (k, n, t, a, o, z) = l ++ numB k ++ textB n ++ textB t ++ numB a ++ textsB o ++ textsB z := by unfold primB; simp only [List.append_assoc]
    rw [e]; exact Ent.get hS (eX (by repeat constructor))⟩
set_option maxRecDepth 100000 in
theorem eachPrim_con (b : Nat) (v u : Value) (l : List UInt8) (xs : List Pr9) (hx : xs.length ≤ 140737488355328) (hc : ∀ p ∈ xs, CountP p) (hl : l.length + (primsB xs).length ≤ 100000000000000) : Con Tryz.prog 79 [ptr b, u, .func (.func 36) #[ptr b] #[]] [Blk b 27 [v], Own eByte 5 v l, G3, Sl ePr u xs] (γ := Value) (fun _ => .tuple #[]) (fun _ => True) (fun g => [Blk b 27 [g], Own eByte 5 g (l ++ primsB xs)]) := by
  unfold primsB at *
  refine con_of Tryz.func79 rfl (dd rfl) fun w0 O0 => ?_
  refine c_seq ?_
  refine c_region ?_
  refine o_val (v_move rfl) (dd rfl) ?_
  refine o_val (v_move rfl) (dd rfl) ?_
  refine o_val ((by first | exact v_len_form Tryz.underlying62 rfl | exact v_len_sl Tryz.underlying62 rfl (hX (by repeat constructor)))) (dd rfl) ?_
  have hnum : (manyB primB xs).length = (numB xs.length).length + ((xs.map primB).flatten).length := by unfold manyB; simp
  refine o_step (s_callf cl32 (num_con b v l xs.length (by omega) (by omega)) rfl (dd rfl) (pXs (by repeat constructor)) fun v1 _ => ?_)
  refine o_nil ?_
  refine c_seq ?_
  refine c_region ?_
  refine o_val (v_move rfl) (dd rfl) ?_
  refine o_val ((by first | exact v_len_form Tryz.underlying62 rfl | exact v_len_sl Tryz.underlying62 rfl (hX (by repeat constructor)))) (dd rfl) ?_
  refine o_val (v_move rfl) (dd rfl) ?_
  refine o_nil ?_
  refine c_block ?_
  rw [show l ++ numB xs.length = l ++ (numB xs.length ++ ((xs.take 0).map primB).flatten) by simp]
  refine c_loopR (γ := Nat × Value) [(2, _), (12, _), (13, _)] (fun g => xs.length - g.1) (fun g => g.1 ≤ xs.length) (fun g => [(14, .int .i64 g.1)]) (fun g => [Blk b 27 [g.2], Own eByte 5 g.2 (l ++ (numB xs.length ++ ((xs.take g.1).map primB).flatten)), G3, Sl ePr u xs]) ((0, v1)) (Nat.zero_le _) (by repeat (first | exact trivial | refine ⟨rfl, ?_⟩)) (eX (by repeat constructor)) ?_
  rintro ⟨k, r⟩ hk IH
  dsimp only at hk ⊢
  try dsimp only [List.cons_append, List.nil_append]
  refine c_seq ?_
  refine c_region ?_
  refine o_val (v_lt rfl rfl) (dd rfl) ?_
  refine o_nil ?_
  refine c_seq ?_
  refine c_cond_p rfl (fun hlt => ?_) (fun hlt => ?_)
  · have hk' : k < xs.length := by omega
    have hfp := flat_part primB hk'
    refine c_skip ?_
    refine c_seq ?_
    refine c_block ?_
    refine c_seq ?_
    refine c_region ?_
    refine o_val ((by first | exact v_indexAddrN Tryz.underlying62 ti58 rfl rfl (hX (by repeat constructor)) (by omega) | exact v_indexAddr Tryz.underlying62 ti58 rfl rfl (hX (by repeat constructor)) (by omega))) (dd rfl) ?_
    refine o_step (s_load_shape ⟨_, Tryz.underlying58⟩ ti58 rfl (dd rfl) (by repeat (first|exact el1 (by omega)|exact el2 (by omega)|exact el3 (by omega)|apply Elem.there)) (pr_open) (fun g => ?_))
    refine o_step (s_alloc ti58 (dd rfl) (fun b7 => ?_))
    refine o_step (s_store_all ti58 rfl rfl (by first | exact CellsV.lit rfl | exact CellsV.one (by first | exact OneC.lit rfl | exact OneC.sl (hX (by repeat constructor)) )) (by repeat (first | exact OneAll.nil | (refine OneAll.cons ?_ ?_; · first | exact OneC.lit rfl | exact OneC.sl (hX (by repeat constructor)) ) | exact OneAll.rd (hX (by repeat constructor)))) rfl (pB (by repeat constructor)) rfl (?_))
    refine o_nil ?_
    refine c_region ?_
    refine o_val (v_move rfl) (dd rfl) ?_
    refine o_val (v_load_all ⟨_, Tryz.underlying58⟩ ti58 rfl (hX (by repeat constructor)) rfl) (dd rfl) ?_
    refine o_step (s_call cl36 (prim_con b r g.1 g.2 (l ++ (numB xs.length ++ ((xs.take k).map primB).flatten)) xs[k] (hc _ (List.getElem_mem hk')) (by simp only [List.length_append]; omega)) (first := [ptr b]) (cap := []) rfl rfl (by rfl) (dd rfl) (pXs (by repeat constructor)) fun v2 _ => ?_)
    refine o_nil ?_
    refine c_inBlock ?_
    refine c_region ?_
    refine o_val ((by first | exact v_add64 rfl rfl (by omega) | exact v_add rfl rfl)) (dd rfl) ?_
    refine o_val (v_move rfl) (dd rfl) ?_
    refine o_nil ?_
    rw [List.append_assoc, List.append_assoc, ← flat_next primB hk']
    refine c_use (IH ((k + 1, v2)) (by first | omega | (dsimp only; omega)) (by dsimp only; omega)) (by repeat (first | exact trivial | refine ⟨rfl, ?_⟩)) (eX (by repeat constructor))
  · have hke : k = xs.length := by omega
    refine c_exit rfl ?_
    refine c_end0 Tryz.func79 rfl fun w O hS => ?_
    exact ⟨r, rfl, trivial, by unfold manyB; rw [hke, List.take_length] at hS; exact Ent.get hS (eX (by repeat constructor))⟩
set_option maxRecDepth 100000 in
theorem prims_con (b : Nat) (v u : Value) (l : List UInt8) (xs : List Pr9) (hx : xs.length ≤ 140737488355328) (hc : ∀ p ∈ xs, CountP p) (hl : l.length + (primsB xs).length ≤ 100000000000000) : Con Tryz.prog 37 [ptr b, u] [Blk b 27 [v], Own eByte 5 v l, G3, Sl ePr u xs] (γ := Value) (fun _ => .tuple #[]) (fun _ => True) (fun g => [Blk b 27 [g], Own eByte 5 g (l ++ primsB xs)]) := by
  have hE := eachPrim_con b v u l xs hx hc hl
  refine con_of Tryz.func37 rfl (dd rfl) fun w0 O0 => ?_
  refine c_region ?_
  refine o_val (v_move rfl) (dd rfl) ?_
  refine o_val (v_move rfl) (dd rfl) ?_
  refine o_val (v_move rfl) (dd rfl) ?_
  refine o_val (v_makeFunc rfl rfl) (dd rfl) ?_
  refine o_step (s_callf cl79 (hE) rfl (dd rfl) (pXs (by repeat constructor)) fun v1 _ => ?_)
  refine o_nil ?_
  refine c_end0 Tryz.func37 rfl fun w O hS => ?_
  exact ⟨v1, rfl, trivial, Ent.get hS (eX (by repeat constructor))⟩
set_option maxRecDepth 100000 in
theorem eachNum_con (b : Nat) (v u : Value) (l : List UInt8) (xs : List Int) (hx : xs.length ≤ 140737488355328) (hc : ∀ n ∈ xs, -9223372036854775808 ≤ n ∧ n ≤ 9223372036854775807) (hl : l.length + (manyB numB xs).length ≤ 100000000000000) : Con Tryz.prog 80 [ptr b, u, .func (.func 32) #[ptr b] #[]] [Blk b 27 [v], Own eByte 5 v l, G3, Sl (eInt .i64) u xs] (γ := Value) (fun _ => .tuple #[]) (fun _ => True) (fun g => [Blk b 27 [g], Own eByte 5 g (l ++ manyB numB xs)]) := by
  refine con_of Tryz.func80 rfl (dd rfl) fun w0 O0 => ?_
  refine c_seq ?_
  refine c_region ?_
  refine o_val (v_move rfl) (dd rfl) ?_
  refine o_val (v_move rfl) (dd rfl) ?_
  refine o_val ((by first | exact v_len_form Tryz.underlying32 rfl | exact v_len_sl Tryz.underlying32 rfl (hX (by repeat constructor)))) (dd rfl) ?_
  have hnum : (manyB numB xs).length = (numB xs.length).length + ((xs.map numB).flatten).length := by unfold manyB; simp
  refine o_step (s_callf cl32 (num_con b v l xs.length (by omega) (by omega)) rfl (dd rfl) (pXs (by repeat constructor)) fun v1 _ => ?_)
  refine o_nil ?_
  refine c_seq ?_
  refine c_region ?_
  refine o_val (v_move rfl) (dd rfl) ?_
  refine o_val ((by first | exact v_len_form Tryz.underlying32 rfl | exact v_len_sl Tryz.underlying32 rfl (hX (by repeat constructor)))) (dd rfl) ?_
  refine o_val (v_move rfl) (dd rfl) ?_
  refine o_nil ?_
  refine c_block ?_
  rw [show l ++ numB xs.length = l ++ (numB xs.length ++ ((xs.take 0).map numB).flatten) by simp]
  refine c_loopR (γ := Nat × Value) [(2, _), (12, _), (13, _)] (fun g => xs.length - g.1) (fun g => g.1 ≤ xs.length) (fun g => [(14, .int .i64 g.1)]) (fun g => [Blk b 27 [g.2], Own eByte 5 g.2 (l ++ (numB xs.length ++ ((xs.take g.1).map numB).flatten)), G3, Sl (eInt .i64) u xs]) ((0, v1)) (Nat.zero_le _) (by repeat (first | exact trivial | refine ⟨rfl, ?_⟩)) (eX (by repeat constructor)) ?_
  rintro ⟨k, r⟩ hk IH
  dsimp only at hk ⊢
  try dsimp only [List.cons_append, List.nil_append]
  refine c_seq ?_
  refine c_region ?_
  refine o_val (v_lt rfl rfl) (dd rfl) ?_
  refine o_nil ?_
  refine c_seq ?_
  refine c_cond_p rfl (fun hlt => ?_) (fun hlt => ?_)
  · have hk' : k < xs.length := by omega
    have hfp := flat_part numB hk'
    refine c_skip ?_
    refine c_seq ?_
    refine c_block ?_
    refine c_seq ?_
    refine c_region ?_
    refine o_val ((by first | exact v_indexAddrN Tryz.underlying32 ti3 rfl rfl (hX (by repeat constructor)) (by omega) | exact v_indexAddr Tryz.underlying32 ti3 rfl rfl (hX (by repeat constructor)) (by omega))) (dd rfl) ?_
    refine o_val (v_load_int lone3 rfl (by repeat (first | exact Elem.sl (List.getElem?_eq_getElem (by omega)) | exact Elem.own (List.getElem?_eq_getElem (by omega)) | exact Elem.ownO (List.getElem?_eq_getElem (by omega)) | apply Elem.there))) (dd rfl) ?_
    refine o_val (v_assign rfl) (dd rfl) ?_
    refine o_nil ?_
    refine c_region ?_
    refine o_val (v_move rfl) (dd rfl) ?_
    refine o_val (v_move rfl) (dd rfl) ?_
    refine o_step (s_call cl32 (num_con b r (l ++ (numB xs.length ++ ((xs.take k).map numB).flatten)) xs[k] (hc _ (List.getElem_mem hk')) (by simp only [List.length_append]; omega)) (first := [ptr b]) (cap := []) rfl rfl (by rfl) (dd rfl) (pXs (by repeat constructor)) fun v2 _ => ?_)
    refine o_nil ?_
    refine c_inBlock ?_
    refine c_region ?_
    refine o_val ((by first | exact v_add64 rfl rfl (by omega) | exact v_add rfl rfl)) (dd rfl) ?_
    refine o_val (v_move rfl) (dd rfl) ?_
    refine o_nil ?_
    rw [List.append_assoc, List.append_assoc, ← flat_next numB hk']
    refine c_use (IH ((k + 1, v2)) (by first | omega | (dsimp only; omega)) (by dsimp only; omega)) (by repeat (first | exact trivial | refine ⟨rfl, ?_⟩)) (eX (by repeat constructor))
  · have hke : k = xs.length := by omega
    refine c_exit rfl ?_
    refine c_end0 Tryz.func80 rfl fun w O hS => ?_
    exact ⟨r, rfl, trivial, by unfold manyB; rw [hke, List.take_length] at hS; exact Ent.get hS (eX (by repeat constructor))⟩
/-- Patches that can be counted. -/
def CountT (p : Pt9) : Prop := (-9223372036854775808 ≤ p.1 ∧ p.1 ≤ 9223372036854775807) ∧ (p.2.2.1.length ≤ 140737488355328 ∧ ∀ n ∈ p.2.2.1, -9223372036854775808 ≤ n ∧ n ≤ 9223372036854775807) ∧ p.2.2.2.length ≤ 140737488355328 ∧ ∀ q ∈ p.2.2.2, CountP q
set_option maxRecDepth 100000 in
theorem patch_con (b : Nat) (v dv lv : Value) (l : List UInt8) (p : Pt9) (hp : CountT p) (hl : l.length + (patchB p).length ≤ 100000000000000) : Con Tryz.prog 38 [ptr b, .agg #[.int .i64 p.1, .string p.2.1, dv, lv]] [Blk b 27 [v], Own eByte 5 v l, G3, Sl (eInt .i64) dv p.2.2.1, Sl ePr lv p.2.2.2] (γ := Value) (fun _ => .tuple #[]) (fun _ => True) (fun g => [Blk b 27 [g], Own eByte 5 g (l ++ patchB p)]) := by
  obtain ⟨id, t, d, q⟩ := p
  obtain ⟨hi, ⟨hd, hde⟩, hq, hqe⟩ := hp
  dsimp only at hi hd hde hq hqe ⊢
  have hle : (patchB (id, t, d, q)).length = (numB id).length + (textB t).length + (manyB numB d).length + (primsB q).length := by unfold patchB; simp only [List.length_append]
  refine con_of Tryz.func38 rfl (dd rfl) fun w0 O0 => ?_
  refine c_seq ?_
  refine c_region ?_
  refine o_step (s_box rfl (dd rfl) (fun b3 => ?_))
  refine o_nil ?_
  refine c_seq ?_
  refine c_region ?_
  refine o_val (v_move rfl) (dd rfl) ?_
  refine o_val (v_fieldAddrC 0 Tryz.underlying67 rfl ti3 (by decide) rfl) (dd rfl) ?_
  refine o_val (v_load lone3 rfl (hX (by repeat constructor)) rfl) (dd rfl) ?_
  refine o_step (s_callf cl32 (num_con b v l id hi (by omega)) rfl (dd rfl) (pXs (by repeat constructor)) fun v1 _ => ?_)
  refine o_nil ?_
  refine c_seq ?_
  refine c_region ?_
  refine o_val (v_move rfl) (dd rfl) ?_
  refine o_val (v_fieldAddrC 1 Tryz.underlying67 rfl ti9 (by decide) rfl) (dd rfl) ?_
  refine o_val (v_load lone9 rfl (hX (by repeat constructor)) rfl) (dd rfl) ?_
  refine o_step (s_callf cl34 (text_con b v1 (l ++ numB id) t (by simp only [List.length_append]; omega)) rfl (dd rfl) (pXs (by repeat constructor)) fun v2 _ => ?_)
  refine o_nil ?_
  refine c_seq ?_
  refine c_region ?_
  refine o_val (v_move rfl) (dd rfl) ?_
  refine o_val (v_fieldAddrC 2 Tryz.underlying67 rfl ti32 (by decide) rfl) (dd rfl) ?_
  refine o_val (v_load lone32 rfl (hX (by repeat constructor)) rfl) (dd rfl) ?_
  refine o_val (v_move rfl) (dd rfl) ?_
  refine o_val (v_makeFunc rfl rfl) (dd rfl) ?_
  refine o_step (s_callf cl80 (eachNum_con b v2 dv (l ++ numB id ++ textB t) d hd hde (by simp only [List.length_append]; omega)) rfl (dd rfl) (pXs (by repeat constructor)) fun v3 _ => ?_)
  refine o_nil ?_
  refine c_region ?_
  refine o_val (v_move rfl) (dd rfl) ?_
  refine o_val (v_fieldAddrC 3 Tryz.underlying67 rfl ti62 (by decide) rfl) (dd rfl) ?_
  refine o_val (v_load lone62 rfl (hX (by repeat constructor)) rfl) (dd rfl) ?_
  refine o_step (s_callf cl37 (prims_con b v3 lv (l ++ numB id ++ textB t ++ manyB numB d) q hq hqe (by simp only [List.length_append]; omega)) rfl (dd rfl) (pXs (by repeat constructor)) fun v4 _ => ?_)
  refine o_nil ?_
  refine c_end0 Tryz.func38 rfl fun w O hS => ?_
  exact ⟨v4, rfl, trivial, by
    have e : l ++ patchB (id, t, d, q) = l ++ numB id ++ textB t ++ manyB numB d ++ primsB q := by unfold patchB; simp only [List.append_assoc]
    rw [e]; exact Ent.get hS (eX (by repeat constructor))⟩
end Go.Proofs.YtmgkeippepeggaaGreatDoor
/- Chapter 09: the program's reader: bytes, a number. -/
namespace Go.Proofs.YtmgkeippepeggaaGreatDoor
open Go Go.SL Go.Lib
theorem find_index (e : UInt8) : ∀ l : List UInt8, indexByte l e = match l.findIdx? (· == e) with | some k => (k : Int) | none => -1
  | [] => rfl
  | b :: l => by
    rw [indexByte, List.findIdx?_cons]
    by_cases h : b = e
    · subst h; simp
    · have hb : (b == e) = false := by simpa using h
      rw [hb, find_index e l]
      cases l.findIdx? (· == e) with
      | none => rfl
      | some k =>
        simp only [Option.map_some, Bool.false_eq_true, if_false]
        rw [if_neg (by intro q; have := beq_iff_eq.1 q; omega)]
        show (k : Int) + 1 = ((k + 1 : Nat) : Int)
        omega
def nm9 (e : UInt8) (s : St9) : Int × Nat := (num9 e s).getD (0, 0)
theorem nm_bad {e : UInt8} {s : St9} {k : Int} (hk : k = indexByte (s.1.take 15) e) (h : k < 1 ∨ s.2 = true) : nm9 e s = (0, 0) := by
  unfold nm9 num9
  split
  · rfl
  · rename_i hb
    have h1 : k < 1 := h.resolve_right hb
    rw [hk, find_index] at h1
    unfold numberR
    split
    · rename_i j hj
      rw [hj] at h1
      have h2 : (j : Int) < 1 := h1
      have hj0 : j = 0 := by omega
      subst hj0; rfl
    · rfl
theorem nm_good {e : UInt8} {s : St9} {k : Int} (hk : k = indexByte (s.1.take 15) e) (h : ¬ (k < 1 ∨ s.2 = true)) : k.toNat ≤ 14 ∧ k.toNat ≤ s.1.length ∧ nm9 e s = match atoi (s.1.take k.toNat) with | some n => if itoa n = s.1.take k.toNat then (n, k.toNat + 1) else (0, 0) | none => (0, 0) := by
  have hb : s.2 = false := by cases q : s.2 with | false => rfl | true => exact absurd (.inr q) h
  have h1 : ¬ k < 1 := fun q => h (.inl q)
  rw [find_index] at hk
  cases hf : (s.1.take 15).findIdx? (· == e) with
  | none => rw [hf] at hk; dsimp only at hk; omega
  | some j =>
    rw [hf] at hk
    dsimp only at hk
    obtain ⟨hj, _, _⟩ := List.findIdx?_eq_some_iff_getElem.1 hf
    rw [List.length_take] at hj
    have e1 : k.toNat = j := by omega
    refine ⟨by omega, by omega, ?_⟩
    unfold nm9 num9 numberR
    rw [hb, if_neg (by decide), hf, e1]
    dsimp only
    rw [if_neg (by omega), numS_atoi]
    cases atoi (s.1.take j) with
    | none => rfl
    | some n =>
      simp only [Option.bind_some]
      split <;> rfl
attribute [local irreducible] Cfg Kont StepK Val Con Qops Any Sl Own Blk BlkR Rd Pu ExA AllA Has Pick Ent Elem Beside Callable TI Lone OwnO AndA
set_option maxRecDepth 100000 in
theorem number_con (i : Nat) (bv : Value) (s : St9) (e : UInt8) (te : TypeId) (pe : Value) : Con Tryz.prog 53 [ptr i, .int .u8 e.toNat] [BlkR i 92 [bv, .bool s.2], Sl eByte bv s.1, G1 te pe, G3] (γ := Unit) (fun _ => .tuple #[.int .i64 (nm9 e s).1, .int .i64 (nm9 e s).2]) (fun _ => True) (fun _ => []) := by
  refine Con.form (v := bv) (xs := s.1) (hX (by repeat constructor)) ?_
  rintro a0 c0 rfl hc0 hm0
  obtain ⟨k, hk⟩ : ∃ k, k = indexByte (s.1.take 15) e := ⟨_, rfl⟩
  have hI := fun v => indexByte_con v (s.1.take 15) e
  have ht : (List.take (min (s.1.length : Int) 15).toNat s.1).drop 0 = s.1.take 15 := by
    rw [List.drop_zero]
    by_cases h : s.1.length ≤ 15
    · rw [List.take_of_length_le (by omega), List.take_of_length_le h]
    · rw [show (min (s.1.length : Int) 15).toNat = 15 by omega]
  refine con_of Tryz.func53 rfl (dd rfl) fun w0 O0 => ?_
  refine c_seq ?_
  refine c_region ?_
  refine o_val (v_assign rfl) (dd rfl) ?_
  refine o_val (v_assign rfl) (dd rfl) ?_
  refine o_nil ?_
  refine c_seq ?_
  refine c_quiet rfl (by kernel_rfl) ?_
  refine q_val (v_move rfl) (dd rfl) ?_
  refine q_val (v_nilCheck rfl) (dd rfl) ?_
  refine q_val (v_fieldAddrC 0 Tryz.underlying92 rfl ti25 (by decide) rfl) (dd rfl) ?_
  refine q_val (v_load lone25 rfl (hX (by repeat constructor)) rfl) (dd rfl) ?_
  refine q_val (v_move rfl) (dd rfl) ?_
  refine q_val (v_nilCheck rfl) (dd rfl) ?_
  refine q_val (v_fieldAddrC 0 Tryz.underlying92 rfl ti25 (by decide) rfl) (dd rfl) ?_
  refine q_val (v_load lone25 rfl (hX (by repeat constructor)) rfl) (dd rfl) ?_
  refine q_val ((by first | exact v_len_form Tryz.underlying25 rfl | exact v_len_sl Tryz.underlying25 rfl (hX (by repeat constructor)))) (dd rfl) ?_
  refine q_val (v_min rfl rfl) (dd rfl) ?_
  refine q_slice Tryz.underlying25 ti5 rfl (pX (by repeat constructor)) (.inl ⟨rfl, rfl⟩) (.inr ⟨_, _, _, rfl, rfl, by omega, rfl⟩) (.inl ⟨rfl, rfl⟩) (by omega) (by first | omega | exact Nat.le_refl _) (by omega) (by omega) (dd rfl) (eX (by repeat constructor)) ?_
  refine q_val (v_move rfl) (dd rfl) ?_
  rw [ht]
  rw [← hk] at hI
  refine q_call_keep cl85 (hI _) rfl (first := []) (cap := []) (fun _ _ => rfl) rfl rfl (dd rfl) (rX (by repeat constructor)) ?_
  refine q_val (v_assign rfl) (dd rfl) ?_
  refine q_nil ?_
  refine c_seq ?_
  refine c_seq ?_
  refine c_env (env' := [(0, _), (4, _), (5, _), (6, _)]) (by repeat (first | exact trivial | refine ⟨rfl, ?_⟩)) ?_
  refine c_joinb (d := 28) (decide (k < 1 ∨ s.2 = true)) ?_ ?_
  rotate_left
  · intro J
    refine c_region ?_
    refine o_val (v_move rfl) (dd rfl) ?_
    refine o_val (v_lt rfl rfl) (dd rfl) ?_
    refine o_val (v_move rfl) (dd rfl) ?_
    first | refine o_guard_f rfl rfl (fun g23 => ?_) (fun g23 => ?_) | refine o_guard rfl rfl (fun g23 => ?_) (fun g23 => ?_)
    · refine o_val (v_move rfl) (dd rfl) ?_
      refine o_on rfl rfl ?_
      refine o_val (v_nilCheck rfl) (dd rfl) ?_
      refine o_on rfl rfl ?_
      refine o_val (v_fieldAddrC 1 Tryz.underlying92 rfl ti4 (by decide) rfl) (dd rfl) ?_
      refine o_on rfl rfl ?_
      refine o_val (v_load lone4 rfl (hX (by repeat constructor)) rfl) (dd rfl) ?_
      refine o_val (v_pick_f rfl rfl) (dd rfl) ?_
      refine o_nil ?_
      exact c_use J ⟨Env.as rfl (congrArg Value.bool (by first | rfl | (simp_all; done) | (simp_all; omega) | (simp; omega))), (by repeat (first | exact trivial | refine ⟨rfl, ?_⟩))⟩ (by first | exact Ent.refl _ | exact eX (by repeat constructor))
    · refine o_off rfl rfl rfl (dd rfl) ?_
      refine o_off rfl rfl rfl (dd rfl) ?_
      refine o_off rfl rfl rfl (dd rfl) ?_
      refine o_off rfl rfl rfl (dd rfl) ?_
      refine o_val (v_pick_t rfl rfl) (dd rfl) ?_
      refine o_nil ?_
      exact c_use J ⟨Env.as rfl (congrArg Value.bool (by first | rfl | (simp_all; done) | (simp_all; omega) | (simp; omega))), (by repeat (first | exact trivial | refine ⟨rfl, ?_⟩))⟩ (by first | exact Ent.refl _ | exact eX (by repeat constructor))
  refine c_cond_p rfl (fun hb => ?_) (fun hb => ?_)
  · have hno := nm_bad hk hb
    refine c_seq ?_
    refine c_region ?_
    refine o_val (v_assign rfl) (dd rfl) ?_
    refine o_val (v_assign rfl) (dd rfl) ?_
    refine o_nil ?_
    refine c_ret2 Tryz.func53 rfl rfl rfl fun w O hS => ?_
    exact ⟨(), by rw [hno]; rfl, trivial, trivial⟩
  · obtain ⟨hk14, hkl, hnm⟩ := nm_good hk hb
    have hA := atoi_con (s.1.take k.toNat) te pe (by rw [List.length_take]; omega)
    refine c_skip ?_
    refine c_seq ?_
    refine c_region ?_
    refine o_val (v_move rfl) (dd rfl) ?_
    refine o_val (v_nilCheck rfl) (dd rfl) ?_
    refine o_val (v_fieldAddrC 0 Tryz.underlying92 rfl ti25 (by decide) rfl) (dd rfl) ?_
    refine o_val (v_load lone25 rfl (hX (by repeat constructor)) rfl) (dd rfl) ?_
    refine o_val (v_move rfl) (dd rfl) ?_
    refine o_step (s_slice Tryz.underlying25 ti5 rfl (pX (by repeat constructor)) rfl (.inl ⟨rfl, rfl⟩) (.inr ⟨_, _, _, rfl, rfl, by omega, rfl⟩) (by omega) (by omega) (dd rfl) fun z => ?_)
    refine o_val (v_conv_bytes Tryz.underlying25 Tryz.underlying5 Tryz.underlying9 rfl (hX (by repeat constructor))) (dd rfl) ?_
    rw [List.drop_zero]
    refine o_step (s_callf_keep cl86 (hA) rfl (dd rfl) (rX (by repeat constructor)) (fun _ => sX) (fun g hg => ?_))
    refine o_val (v_move rfl) (dd rfl) ?_
    refine o_val (v_extract rfl rfl) (dd rfl) ?_
    refine o_val (v_extract rfl rfl) (dd rfl) ?_
    refine o_val (v_assign rfl) (dd rfl) ?_
    refine o_val (v_assign rfl) (dd rfl) ?_
    refine o_nil ?_
    refine c_seq ?_
    refine c_seq ?_
    obtain ⟨n, ev⟩ := g
    dsimp only at hg ⊢
    rcases hg with ⟨ha, rfl⟩ | ⟨ha, tp, p, rfl⟩
    · have hbd := atoi_bound ha (by rw [List.length_take]; omega)
      have hit := itoa_con n (by omega)
      refine c_quiet rfl (by kernel_rfl) ?_
      refine q_val (v_move rfl) (dd rfl) ?_
      refine q_val (v_ne_nilI Tryz.underlying129 rfl) (dd rfl) ?_
      refine q_val (v_move rfl) (dd rfl) ?_
      refine q_on rfl rfl ?_
      refine q_val (v_move rfl) (dd rfl) ?_
      refine q_on rfl rfl ?_
      refine q_call_keep cl87 (hit) rfl (first := []) (cap := []) (fun _ _ => rfl) rfl rfl (dd rfl) (rX (by repeat constructor)) ?_
      refine q_on rfl rfl ?_
      refine q_val (v_move rfl) (dd rfl) ?_
      refine q_on rfl rfl ?_
      refine q_val (v_nilCheck rfl) (dd rfl) ?_
      refine q_on rfl rfl ?_
      refine q_val (v_fieldAddrC 0 Tryz.underlying92 rfl ti25 (by decide) rfl) (dd rfl) ?_
      refine q_on rfl rfl ?_
      refine q_val (v_load lone25 rfl (hX (by repeat constructor)) rfl) (dd rfl) ?_
      refine q_on rfl rfl ?_
      refine q_val (v_move rfl) (dd rfl) ?_
      refine q_on rfl rfl ?_
      refine q_slice Tryz.underlying25 ti5 rfl (pX (by repeat constructor)) (.inl ⟨rfl, rfl⟩) (.inr ⟨_, _, _, rfl, rfl, by omega, rfl⟩) (.inl ⟨rfl, rfl⟩) (by omega) (by first | omega | exact Nat.le_refl _) (by omega) (by omega) (dd rfl) (eX (by repeat constructor)) ?_
      refine q_on rfl rfl ?_
      refine q_val (v_conv_bytes Tryz.underlying25 Tryz.underlying5 Tryz.underlying9 rfl (hX (by repeat constructor))) (dd rfl) ?_
      refine q_on rfl rfl ?_
      refine q_val (v_sne rfl rfl) (dd rfl) ?_
      refine q_val (v_pick_f rfl rfl) (dd rfl) ?_
      refine q_nil ?_
      rw [List.drop_zero]
      refine c_cond_p rfl (fun hs => ?_) (fun hs => ?_)
      · have hs2 : ¬ itoa n = s.1.take k.toNat := fun q => hs (congrArg sB q)
        refine c_seq ?_
        refine c_region ?_
        refine o_val (v_assign rfl) (dd rfl) ?_
        refine o_val (v_assign rfl) (dd rfl) ?_
        refine o_nil ?_
        refine c_ret2 Tryz.func53 rfl rfl rfl fun w O hS => ?_
        exact ⟨(), by rw [hnm, ha]; dsimp only; rw [if_neg hs2]; rfl, trivial, trivial⟩
      · have hs2 : itoa n = s.1.take k.toNat := sB_inj (Classical.not_not.1 hs)
        refine c_skip ?_
        refine c_seq ?_
        refine c_region ?_
        refine o_val (v_move rfl) (dd rfl) ?_
        refine o_val (v_move rfl) (dd rfl) ?_
        refine o_val ((by first | exact v_add64 rfl rfl (by omega) | exact v_add rfl rfl)) (dd rfl) ?_
        refine o_val (v_assign rfl) (dd rfl) ?_
        refine o_val (v_assign rfl) (dd rfl) ?_
        refine o_nil ?_
        refine c_ret2 Tryz.func53 rfl rfl rfl fun w O hS => ?_
        exact ⟨(), by rw [hnm, ha]; dsimp only; rw [if_pos hs2]; show _ = Value.tuple #[.int .i64 n, .int .i64 ((k.toNat + 1 : Nat) : Int)]; rw [show ((k.toNat + 1 : Nat) : Int) = k + 1 by omega]; rfl, trivial, trivial⟩
    · skip
      refine c_quiet rfl (by kernel_rfl) ?_
      refine q_val (v_move rfl) (dd rfl) ?_
      refine q_val (v_ne_iface Tryz.underlying129 rfl) (dd rfl) ?_
      refine q_val (v_move rfl) (dd rfl) ?_
      refine q_off rfl rfl rfl (dd rfl) ?_
      refine q_off rfl rfl rfl (dd rfl) ?_
      refine q_off rfl rfl rfl (dd rfl) ?_
      refine q_off rfl rfl rfl (dd rfl) ?_
      refine q_off rfl rfl rfl (dd rfl) ?_
      refine q_off rfl rfl rfl (dd rfl) ?_
      refine q_off rfl rfl rfl (dd rfl) ?_
      refine q_off rfl rfl rfl (dd rfl) ?_
      refine q_off rfl rfl rfl (dd rfl) ?_
      refine q_off rfl rfl rfl (dd rfl) ?_
      refine q_val (v_pick_t rfl rfl) (dd rfl) ?_
      refine q_nil ?_
      refine c_cond_t rfl ?_
      refine c_seq ?_
      refine c_region ?_
      refine o_val (v_assign rfl) (dd rfl) ?_
      refine o_val (v_assign rfl) (dd rfl) ?_
      refine o_nil ?_
      refine c_ret2 Tryz.func53 rfl rfl rfl fun w O hS => ?_
      exact ⟨(), by rw [hnm, ha]; rfl, trivial, trivial⟩
set_option maxRecDepth 100000 in
theorem cloneB_con (v : Value) (xs : List UInt8) (hx : xs.length ≤ 140737488355000) : Con Tryz.prog 52 [v] [Sl eByte v xs] (γ := Value) (fun r => r) (fun _ => True) (fun r => [Own eByte 5 r xs]) := by
  refine Con.form (v := v) (xs := xs) (hX (by repeat constructor)) ?_
  rintro a0 c0 rfl hc0 -
  refine con_of Tryz.func52 rfl (dd rfl) fun w0 O0 => ?_
  refine c_seq ?_
  refine c_region ?_
  refine o_val (v_assign rfl) (dd rfl) ?_
  refine o_nil ?_
  refine c_seq ?_
  refine c_seq ?_
  refine c_region ?_
  refine o_val (v_move rfl) (dd rfl) ?_
  refine o_val (v_eq_sl_nil Tryz.underlying25 rfl rfl) (dd rfl) ?_
  refine o_nil ?_
  refine c_cond rfl (fun h => ?_) (fun h => ?_)
  · refine c_seq ?_
    refine c_region ?_
    refine o_val (v_assign rfl) (dd rfl) ?_
    refine o_nil ?_
    refine c_ret1 Tryz.func52 rfl rfl fun w O hS => ?_
    have : xs = [] := by
      cases a0 with
      | none => obtain ⟨_, _, _, h1, _⟩ := hS; exact Sl.none_nil h1
      | some _ => cases h
    subst this
    exact ⟨.slice none 0 0, rfl, trivial, stars_own_nil⟩
  · refine c_skip ?_
    refine c_seq ?_
    refine c_region ?_
    refine o_step (s_buildSlice Tryz.underlying25 ti5 rfl rfl rfl (by decide) (by decide) (beside_byte []) rfl rfl (dd rfl) fun v1 => ?_)
    refine o_val (v_move rfl) (dd rfl) ?_
    refine o_step (s_append Tryz.underlying25 ti5 rfl (by decide) rfl rfl (dd rfl) (pB (by repeat constructor)) (pX (by repeat constructor)) rfl (by (first | omega | (simp only [maxLen, List.length_append, List.length_drop, List.length_take, List.length_nil, List.length_cons]; omega))) (by (first | omega | (simp only [maxLen, List.length_append, List.length_drop, List.length_take, List.length_nil, List.length_cons]; omega))) fun v2 => ?_)
    refine o_val (v_assign rfl) (dd rfl) ?_
    refine o_nil ?_
    refine c_ret1 Tryz.func52 rfl rfl fun w O hS => ?_
    exact ⟨v2, rfl, trivial, Ent.get hS (eX (by repeat constructor))⟩
set_option maxRecDepth 100000 in
theorem bytes_con (b : Nat) (v : Value) (l : List UInt8) (hl : l.length ≤ 140737488355000) : Con Tryz.prog 12 [ptr b] [BlkR b 27 [v], Sl eByte v l] (γ := Value) (fun r => r) (fun _ => True) (fun r => [Own eByte 5 r l]) := by
  have hC := cloneB_con v l hl
  refine con_of Tryz.func12 rfl (dd rfl) fun w0 O0 => ?_
  refine c_seq ?_
  refine c_region ?_
  refine o_val (v_assign rfl) (dd rfl) ?_
  refine o_nil ?_
  refine c_seq ?_
  refine c_region ?_
  refine o_val (v_move rfl) (dd rfl) ?_
  refine o_val (v_nilCheck rfl) (dd rfl) ?_
  refine o_val (v_fieldAddrC 0 Tryz.underlying27 rfl ti25 (by decide) rfl) (dd rfl) ?_
  refine o_val (v_load lone25 rfl (hX (by repeat constructor)) rfl) (dd rfl) ?_
  refine o_step (s_callf cl52 (hC) rfl (dd rfl) (pXs (by repeat constructor)) fun r _ => ?_)
  refine o_val (v_assign rfl) (dd rfl) ?_
  refine o_nil ?_
  refine c_ret1 Tryz.func12 rfl rfl fun w O hS => ?_
  exact ⟨r, rfl, trivial, Ent.get hS (eX (by repeat constructor))⟩
set_option maxRecDepth 100000 in
theorem of_con (v : Value) (l : List UInt8) (hl : l.length ≤ 140737488355000) : Con Tryz.prog 13 [v] [Sl eByte v l] (γ := Nat × Value) (fun g => ptr g.1) (fun _ => True) (fun g => [Blk g.1 92 [g.2, .bool false], Sl eByte g.2 l]) := by
  have hC := cloneB_con v l hl
  refine con_of Tryz.func13 rfl (dd rfl) fun w0 O0 => ?_
  refine c_seq ?_
  refine c_region ?_
  refine o_val (v_assign rfl) (dd rfl) ?_
  refine o_nil ?_
  refine c_seq ?_
  refine c_region ?_
  refine o_val (v_move rfl) (dd rfl) ?_
  refine o_step (s_callf cl52 (hC) rfl (dd rfl) (pXs (by repeat constructor)) fun r _ => ?_)
  refine o_val (v_buildS (places := [(0, 1), (1, 1)]) (cells := [_, .bool false]) Tryz.underlying92 ti92 (by kernel_rfl) rfl (by repeat (first | exact PartsC.nil | (apply PartsC.one (by first | exact OneC.lit rfl | exact OneC.sl (hX (by repeat constructor)) )) | (apply PartsC.lit rfl))) rfl) (dd rfl) ?_
  refine o_step (s_box rfl (dd rfl) (fun b6 => ?_))
  refine o_val (v_assign rfl) (dd rfl) ?_
  refine o_nil ?_
  refine c_ret1 Tryz.func13 rfl rfl fun w O hS => ?_
  exact ⟨(b6, r), rfl, trivial, Ent.get hS (eX (by repeat constructor))⟩
set_option maxRecDepth 100000 in
theorem left_con (i : Nat) (bv : Value) (s : St9) : Con Tryz.prog 18 [ptr i] [BlkR i 92 [bv, .bool s.2], Sl eByte bv s.1] (γ := Unit) (fun _ => .int .i64 s.1.length) (fun _ => True) (fun _ => []) := by
  refine con_of Tryz.func18 rfl (dd rfl) fun w0 O0 => ?_
  refine c_seq ?_
  refine c_region ?_
  refine o_val (v_assign rfl) (dd rfl) ?_
  refine o_nil ?_
  refine c_seq ?_
  refine c_region ?_
  refine o_val (v_move rfl) (dd rfl) ?_
  refine o_val (v_nilCheck rfl) (dd rfl) ?_
  refine o_val (v_fieldAddrC 0 Tryz.underlying92 rfl ti25 (by decide) rfl) (dd rfl) ?_
  refine o_val (v_load lone25 rfl (hX (by repeat constructor)) rfl) (dd rfl) ?_
  refine o_val ((by first | exact v_len_form Tryz.underlying25 rfl | exact v_len_sl Tryz.underlying25 rfl (hX (by repeat constructor)))) (dd rfl) ?_
  refine o_val (v_assign rfl) (dd rfl) ?_
  refine o_nil ?_
  refine c_ret1 Tryz.func18 rfl rfl fun w O hS => ?_
  exact ⟨(), rfl, trivial, trivial⟩
set_option maxRecDepth 100000 in
theorem done_con (i : Nat) (bv : Value) (s : St9) : Con Tryz.prog 20 [ptr i] [BlkR i 92 [bv, .bool s.2], Sl eByte bv s.1] (γ := Unit) (fun _ => .bool (decide (s = ([], false)))) (fun _ => True) (fun _ => []) := by
  obtain ⟨l, b⟩ := s
  dsimp only
  refine con_of Tryz.func20 rfl (dd rfl) fun w0 O0 => ?_
  refine c_seq ?_
  refine c_region ?_
  refine o_val (v_assign rfl) (dd rfl) ?_
  refine o_nil ?_
  refine c_seq ?_
  refine c_region ?_
  refine o_val (v_move rfl) (dd rfl) ?_
  refine o_val (v_nilCheck rfl) (dd rfl) ?_
  refine o_val (v_fieldAddrC 1 Tryz.underlying92 rfl ti4 (by decide) rfl) (dd rfl) ?_
  refine o_val (v_load lone4 rfl (hX (by repeat constructor)) rfl) (dd rfl) ?_
  refine o_val (v_not rfl) (dd rfl) ?_
  refine o_val (v_move rfl) (dd rfl) ?_
  refine o_guard rfl rfl (fun h => ?_) (fun h => ?_)
  · have hb : b = false := by simpa using h
    subst hb
    refine o_val (v_move rfl) (dd rfl) ?_
    refine o_on rfl rfl ?_
    refine o_val (v_nilCheck rfl) (dd rfl) ?_
    refine o_on rfl rfl ?_
    refine o_val (v_fieldAddrC 0 Tryz.underlying92 rfl ti25 (by decide) rfl) (dd rfl) ?_
    refine o_on rfl rfl ?_
    refine o_val (v_load lone25 rfl (hX (by repeat constructor)) rfl) (dd rfl) ?_
    refine o_on rfl rfl ?_
    refine o_val ((by first | exact v_len_form Tryz.underlying25 rfl | exact v_len_sl Tryz.underlying25 rfl (hX (by repeat constructor)))) (dd rfl) ?_
    refine o_on rfl rfl ?_
    refine o_val (v_eq rfl rfl) (dd rfl) ?_
    refine o_val (v_pick_t rfl rfl) (dd rfl) ?_
    refine o_val (v_assign rfl) (dd rfl) ?_
    refine o_nil ?_
    refine c_ret1 Tryz.func20 rfl rfl fun w O hS => ?_
    refine ⟨(), congrArg Value.bool (decide_eq_decide.2 ⟨fun h => ?_, fun h => ?_⟩), trivial, trivial⟩
    · rw [List.length_eq_zero_iff.1 (Int.ofNat.inj h)]
    · rw [(Prod.mk.inj h).1]; rfl
  · have hb : b = true := by simpa using h
    subst hb
    refine o_off rfl rfl rfl (dd rfl) ?_
    refine o_off rfl rfl rfl (dd rfl) ?_
    refine o_off rfl rfl rfl (dd rfl) ?_
    refine o_off rfl rfl rfl (dd rfl) ?_
    refine o_off rfl rfl rfl (dd rfl) ?_
    refine o_off rfl rfl rfl (dd rfl) ?_
    refine o_val (v_pick_f rfl rfl) (dd rfl) ?_
    refine o_val (v_assign rfl) (dd rfl) ?_
    refine o_nil ?_
    refine c_ret1 Tryz.func20 rfl rfl fun w O hS => ?_
    exact ⟨(), by rw [decide_eq_false (by intro q; cases (Prod.mk.inj q).2)], trivial, trivial⟩
end Go.Proofs.YtmgkeippepeggaaGreatDoor
