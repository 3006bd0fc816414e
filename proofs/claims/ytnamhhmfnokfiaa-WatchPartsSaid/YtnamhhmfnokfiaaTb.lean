import Derived.Test.YtnamhhmfnokfiaaProg
import Derived.KernelRfl
import Derived.Test.YtnamhhmfnokfiaaQ4
namespace Go.Proofs.Ytnamhhmfnokfiaa
open Go Go.SL
theorem ti0 : TI Try.prog 0 (.tuple #[]) 1 0 := ti_of (by kernel_rfl)
theorem ti1 : TI Try.prog 1 (.nilFunc) 1 8 := ti_of (by kernel_rfl)
theorem ti2 : TI Try.prog 2 (.int .i64 0) 1 8 := ti_of (by kernel_rfl)
theorem ti3 : TI Try.prog 3 (.int .i64 0) 1 8 := ti_of (by kernel_rfl)
theorem ti4 : TI Try.prog 4 (.bool false) 1 1 := ti_of (by kernel_rfl)
theorem ti5 : TI Try.prog 5 (.int .u8 0) 1 1 := ti_of (by kernel_rfl)
theorem ti6 : TI Try.prog 6 (.int .u8 0) 1 1 := ti_of (by kernel_rfl)
theorem ti7 : TI Try.prog 7 (.agg #[.int .i64 0, .int .i64 0, .bool false, .int .u8 0]) 4 24 := ti_of (by kernel_rfl)
theorem ti8 : TI Try.prog 8 (.agg #[.int .i64 0, .int .i64 0, .bool false, .int .u8 0]) 4 24 := ti_of (by kernel_rfl)
theorem ti9 : TI Try.prog 9 (.string ⟨#[]⟩) 1 16 := ti_of (by kernel_rfl)
theorem ti10 : TI Try.prog 10 (.string ⟨#[]⟩) 1 16 := ti_of (by kernel_rfl)
theorem ti11 : TI Try.prog 11 (.string ⟨#[]⟩) 1 16 := ti_of (by kernel_rfl)
theorem ti12 : TI Try.prog 12 (.int .u64 0) 1 8 := ti_of (by kernel_rfl)
theorem ti13 : TI Try.prog 13 (.agg #[.string ⟨#[]⟩, .int .u64 0]) 2 24 := ti_of (by kernel_rfl)
theorem ti14 : TI Try.prog 14 (.agg #[.string ⟨#[]⟩, .int .u64 0]) 2 24 := ti_of (by kernel_rfl)
theorem ti15 : TI Try.prog 15 (.pointer none) 1 8 := ti_of (by kernel_rfl)
theorem ti16 : TI Try.prog 16 (.pointer none) 1 8 := ti_of (by kernel_rfl)
theorem ti17 : TI Try.prog 17 (.pointer none) 1 8 := ti_of (by kernel_rfl)
theorem ti18 : TI Try.prog 18 (.agg #[.pointer none]) 1 8 := ti_of (by kernel_rfl)
theorem ti19 : TI Try.prog 19 (.agg #[.pointer none]) 1 8 := ti_of (by kernel_rfl)
theorem ti20 : TI Try.prog 20 (.nilIface) 1 16 := ti_of (by kernel_rfl)
theorem ti21 : TI Try.prog 21 (.int .i32 0) 1 4 := ti_of (by kernel_rfl)
theorem ti22 : TI Try.prog 22 (.slice none 0 0) 1 24 := ti_of (by kernel_rfl)
theorem ti23 : TI Try.prog 23 (.nilFunc) 1 8 := ti_of (by kernel_rfl)
theorem ti24 : TI Try.prog 24 (.nilFunc) 1 8 := ti_of (by kernel_rfl)
theorem ti25 : TI Try.prog 25 (.pointer none) 1 8 := ti_of (by kernel_rfl)
theorem ti26 : TI Try.prog 26 (.map none) 1 8 := ti_of (by kernel_rfl)
theorem ti27 : TI Try.prog 27 (.agg #[.map none]) 1 8 := ti_of (by kernel_rfl)
theorem ti28 : TI Try.prog 28 (.agg #[.map none]) 1 8 := ti_of (by kernel_rfl)
theorem ti29 : TI Try.prog 29 (.slice none 0 0) 1 24 := ti_of (by kernel_rfl)
theorem ti30 : TI Try.prog 30 (.slice none 0 0) 1 24 := ti_of (by kernel_rfl)
theorem ti31 : TI Try.prog 31 (.agg #[.int .i64 0, .int .i64 0, .int .i64 0, .string ⟨#[]⟩, .slice none 0 0]) 5 64 := ti_of (by kernel_rfl)
theorem ti32 : TI Try.prog 32 (.agg #[.int .i64 0, .int .i64 0, .int .i64 0, .string ⟨#[]⟩, .slice none 0 0]) 5 64 := ti_of (by kernel_rfl)
theorem ti33 : TI Try.prog 33 (.tuple #[.pointer none, .slice none 0 0, .bool false]) 1 0 := ti_of (by kernel_rfl)
theorem ti34 : TI Try.prog 34 (.nilFunc) 1 8 := ti_of (by kernel_rfl)
theorem ti35 : TI Try.prog 35 (.slice none 0 0) 1 24 := ti_of (by kernel_rfl)
theorem ti36 : TI Try.prog 36 (.nilFunc) 1 8 := ti_of (by kernel_rfl)
theorem ti37 : TI Try.prog 37 (.slice none 0 0) 1 24 := ti_of (by kernel_rfl)
theorem ti38 : TI Try.prog 38 (.agg #[.int .i64 0, .string ⟨#[]⟩, .slice none 0 0]) 3 48 := ti_of (by kernel_rfl)
theorem ti39 : TI Try.prog 39 (.agg #[.int .i64 0, .string ⟨#[]⟩, .slice none 0 0]) 3 48 := ti_of (by kernel_rfl)
theorem ti40 : TI Try.prog 40 (.tuple #[.string ⟨#[]⟩, .bool false]) 1 0 := ti_of (by kernel_rfl)
theorem ti41 : TI Try.prog 41 (.nilFunc) 1 8 := ti_of (by kernel_rfl)
theorem ti42 : TI Try.prog 42 (.nilFunc) 1 8 := ti_of (by kernel_rfl)
theorem ti43 : TI Try.prog 43 (.nilFunc) 1 8 := ti_of (by kernel_rfl)
theorem ti44 : TI Try.prog 44 (.slice none 0 0) 1 24 := ti_of (by kernel_rfl)
theorem ti45 : TI Try.prog 45 (.agg #[.int .i64 0, .slice none 0 0]) 2 32 := ti_of (by kernel_rfl)
theorem ti46 : TI Try.prog 46 (.agg #[.int .i64 0, .slice none 0 0]) 2 32 := ti_of (by kernel_rfl)
theorem ti47 : TI Try.prog 47 (.int .i64 0) 1 8 := ti_of (by kernel_rfl)
theorem ti48 : TI Try.prog 48 (.nilFunc) 1 8 := ti_of (by kernel_rfl)
theorem ti49 : TI Try.prog 49 (.slice none 0 0) 1 24 := ti_of (by kernel_rfl)
theorem ti50 : TI Try.prog 50 (.tuple #[.slice none 0 0, .int .i64 0]) 1 0 := ti_of (by kernel_rfl)
theorem ti51 : TI Try.prog 51 (.nilFunc) 1 8 := ti_of (by kernel_rfl)
theorem ti52 : TI Try.prog 52 (.nilFunc) 1 8 := ti_of (by kernel_rfl)
theorem ti53 : TI Try.prog 53 (.nilFunc) 1 8 := ti_of (by kernel_rfl)
theorem ti54 : TI Try.prog 54 (.nilFunc) 1 8 := ti_of (by kernel_rfl)
theorem ti55 : TI Try.prog 55 (.agg #[.int .i64 0, .slice none 0 0, .bool false]) 3 40 := ti_of (by kernel_rfl)
theorem ti56 : TI Try.prog 56 (.agg #[.int .i64 0, .slice none 0 0, .bool false]) 3 40 := ti_of (by kernel_rfl)
theorem ti57 : TI Try.prog 57 (.nilFunc) 1 8 := ti_of (by kernel_rfl)
theorem ti58 : TI Try.prog 58 (.nilFunc) 1 8 := ti_of (by kernel_rfl)
theorem ti59 : TI Try.prog 59 (.nilFunc) 1 8 := ti_of (by kernel_rfl)
theorem ti60 : TI Try.prog 60 (.agg #[.int .i64 0, .slice none 0 0, .bool false]) 3 40 := ti_of (by kernel_rfl)
theorem ti61 : TI Try.prog 61 (.nilFunc) 1 8 := ti_of (by kernel_rfl)
theorem ti62 : TI Try.prog 62 (.slice none 0 0) 1 24 := ti_of (by kernel_rfl)
theorem ti63 : TI Try.prog 63 (.nilFunc) 1 8 := ti_of (by kernel_rfl)
theorem ti64 : TI Try.prog 64 (.nilFunc) 1 8 := ti_of (by kernel_rfl)
theorem ti65 : TI Try.prog 65 (.nilFunc) 1 8 := ti_of (by kernel_rfl)
theorem ti66 : TI Try.prog 66 (.nilFunc) 1 8 := ti_of (by kernel_rfl)
theorem ti67 : TI Try.prog 67 (.nilFunc) 1 8 := ti_of (by kernel_rfl)
theorem ti68 : TI Try.prog 68 (.nilFunc) 1 8 := ti_of (by kernel_rfl)
theorem ti69 : TI Try.prog 69 (.slice none 0 0) 1 24 := ti_of (by kernel_rfl)
theorem ti70 : TI Try.prog 70 (.nilFunc) 1 8 := ti_of (by kernel_rfl)
theorem ti71 : TI Try.prog 71 (.pointer none) 1 8 := ti_of (by kernel_rfl)
theorem ti72 : TI Try.prog 72 (.map none) 1 8 := ti_of (by kernel_rfl)
theorem ti73 : TI Try.prog 73 (.map none) 1 8 := ti_of (by kernel_rfl)
theorem ti74 : TI Try.prog 74 (.agg #[.map none, .map none]) 2 16 := ti_of (by kernel_rfl)
theorem ti75 : TI Try.prog 75 (.agg #[.map none, .map none]) 2 16 := ti_of (by kernel_rfl)
theorem ti76 : TI Try.prog 76 (.slice none 0 0) 1 24 := ti_of (by kernel_rfl)
theorem ti77 : TI Try.prog 77 (.agg #[.slice none 0 0, .slice none 0 0]) 2 48 := ti_of (by kernel_rfl)
theorem ti78 : TI Try.prog 78 (.agg #[.slice none 0 0, .slice none 0 0]) 2 48 := ti_of (by kernel_rfl)
theorem ti79 : TI Try.prog 79 (.agg #[.int .i64 0, .int .i64 0, .string ⟨#[]⟩, .int .i64 0]) 4 40 := ti_of (by kernel_rfl)
theorem ti80 : TI Try.prog 80 (.agg #[.int .i64 0, .int .i64 0, .string ⟨#[]⟩, .int .i64 0]) 4 40 := ti_of (by kernel_rfl)
theorem ti81 : TI Try.prog 81 (.tuple #[.pointer none, .agg #[.slice none 0 0, .slice none 0 0], .bool false]) 1 0 := ti_of (by kernel_rfl)
theorem ti82 : TI Try.prog 82 (.nilFunc) 1 8 := ti_of (by kernel_rfl)
theorem ti83 : TI Try.prog 83 (.nilFunc) 1 8 := ti_of (by kernel_rfl)
theorem ti84 : TI Try.prog 84 (.nilFunc) 1 8 := ti_of (by kernel_rfl)
theorem ti85 : TI Try.prog 85 (.tuple #[.int .i64 0, .bool false]) 1 0 := ti_of (by kernel_rfl)
theorem ti86 : TI Try.prog 86 (.nilFunc) 1 8 := ti_of (by kernel_rfl)
theorem ti87 : TI Try.prog 87 (.nilFunc) 1 8 := ti_of (by kernel_rfl)
theorem ti88 : TI Try.prog 88 (.nilFunc) 1 8 := ti_of (by kernel_rfl)
theorem ti89 : TI Try.prog 89 (.agg #[.int .i64 0, .string ⟨#[]⟩, .int .i64 0]) 3 32 := ti_of (by kernel_rfl)
theorem ti90 : TI Try.prog 90 (.agg #[.int .i64 0, .string ⟨#[]⟩, .int .i64 0]) 3 32 := ti_of (by kernel_rfl)
theorem ti91 : TI Try.prog 91 (.map none) 1 8 := ti_of (by kernel_rfl)
theorem ti92 : TI Try.prog 92 (.nilFunc) 1 8 := ti_of (by kernel_rfl)
theorem ti93 : TI Try.prog 93 (.agg #[.string ⟨#[]⟩, .bool false]) 2 24 := ti_of (by kernel_rfl)
theorem ti94 : TI Try.prog 94 (.agg #[.string ⟨#[]⟩, .bool false]) 2 24 := ti_of (by kernel_rfl)
theorem ti95 : TI Try.prog 95 (.tuple #[.bool false, .int .i64 0]) 1 0 := ti_of (by kernel_rfl)
theorem ti96 : TI Try.prog 96 (.nilFunc) 1 8 := ti_of (by kernel_rfl)
theorem ti97 : TI Try.prog 97 (.map none) 1 8 := ti_of (by kernel_rfl)
theorem ti98 : TI Try.prog 98 (.tuple #[.string ⟨#[]⟩, .int .i64 0, .bool false]) 1 0 := ti_of (by kernel_rfl)
theorem ti99 : TI Try.prog 99 (.nilFunc) 1 8 := ti_of (by kernel_rfl)
theorem ti100 : TI Try.prog 100 (.nilFunc) 1 8 := ti_of (by kernel_rfl)
theorem ti101 : TI Try.prog 101 (.tuple #[.slice none 0 0, .int .i64 0]) 1 0 := ti_of (by kernel_rfl)
theorem ti102 : TI Try.prog 102 (.nilFunc) 1 8 := ti_of (by kernel_rfl)
theorem ti103 : TI Try.prog 103 (.nilFunc) 1 8 := ti_of (by kernel_rfl)
theorem ti104 : TI Try.prog 104 (.tuple #[.slice none 0 0, .slice none 0 0]) 1 0 := ti_of (by kernel_rfl)
theorem ti105 : TI Try.prog 105 (.nilFunc) 1 8 := ti_of (by kernel_rfl)
theorem ti106 : TI Try.prog 106 (.tuple #[.slice none 0 0, .slice none 0 0, .int .i64 0]) 1 0 := ti_of (by kernel_rfl)
theorem ti107 : TI Try.prog 107 (.nilFunc) 1 8 := ti_of (by kernel_rfl)
theorem ti108 : TI Try.prog 108 (.nilFunc) 1 8 := ti_of (by kernel_rfl)
theorem ti109 : TI Try.prog 109 (.nilFunc) 1 8 := ti_of (by kernel_rfl)
theorem ti110 : TI Try.prog 110 (.nilFunc) 1 8 := ti_of (by kernel_rfl)
theorem ti111 : TI Try.prog 111 (.nilFunc) 1 8 := ti_of (by kernel_rfl)
theorem ti112 : TI Try.prog 112 (.pointer none) 1 8 := ti_of (by kernel_rfl)
theorem ti113 : TI Try.prog 113 (.agg #[.string ⟨#[]⟩, .slice none 0 0]) 2 40 := ti_of (by kernel_rfl)
theorem ti114 : TI Try.prog 114 (.agg #[.string ⟨#[]⟩, .slice none 0 0]) 2 40 := ti_of (by kernel_rfl)
theorem ti115 : TI Try.prog 115 (.nilFunc) 1 8 := ti_of (by kernel_rfl)
theorem ti116 : TI Try.prog 116 (.nilFunc) 1 8 := ti_of (by kernel_rfl)
theorem ti117 : TI Try.prog 117 (.nilFunc) 1 8 := ti_of (by kernel_rfl)
theorem ti118 : TI Try.prog 118 (.nilFunc) 1 8 := ti_of (by kernel_rfl)
theorem ti119 : TI Try.prog 119 (.agg #[.bool false, .bool false, .bool false, .bool false]) 4 4 := ti_of (by kernel_rfl)
theorem ti120 : TI Try.prog 120 (.agg #[.bool false, .bool false, .bool false, .bool false, .bool false, .bool false, .bool false, .bool false, .bool false, .bool false, .bool false, .bool false, .bool false, .bool false, .bool false, .bool false]) 16 16 := ti_of (by kernel_rfl)
theorem ti121 : TI Try.prog 121 (.nilFunc) 1 8 := ti_of (by kernel_rfl)
theorem ti122 : TI Try.prog 122 (.nilFunc) 1 8 := ti_of (by kernel_rfl)
theorem ti123 : TI Try.prog 123 (.tuple #[.agg #[.slice none 0 0, .slice none 0 0], .bool false, .int .i64 0]) 1 0 := ti_of (by kernel_rfl)
theorem ti124 : TI Try.prog 124 (.nilFunc) 1 8 := ti_of (by kernel_rfl)
theorem ti125 : TI Try.prog 125 (.tuple #[.agg #[.slice none 0 0, .slice none 0 0], .slice none 0 0]) 1 0 := ti_of (by kernel_rfl)
theorem ti126 : TI Try.prog 126 (.nilFunc) 1 8 := ti_of (by kernel_rfl)
theorem ti127 : TI Try.prog 127 (.nilFunc) 1 8 := ti_of (by kernel_rfl)
theorem ti128 : TI Try.prog 128 (.nilFunc) 1 8 := ti_of (by kernel_rfl)
theorem ti129 : TI Try.prog 129 (.tuple #[.agg #[.int .i64 0, .string ⟨#[]⟩, .int .i64 0], .bool false]) 1 0 := ti_of (by kernel_rfl)
theorem ti130 : TI Try.prog 130 (.nilFunc) 1 8 := ti_of (by kernel_rfl)
theorem ti131 : TI Try.prog 131 (.nilFunc) 1 8 := ti_of (by kernel_rfl)
theorem ti132 : TI Try.prog 132 (.nilFunc) 1 8 := ti_of (by kernel_rfl)
theorem ti133 : TI Try.prog 133 (.slice none 0 0) 1 24 := ti_of (by kernel_rfl)
theorem ti134 : TI Try.prog 134 (.agg #[.map none, .slice none 0 0]) 2 32 := ti_of (by kernel_rfl)
theorem ti135 : TI Try.prog 135 (.agg #[.map none, .slice none 0 0]) 2 32 := ti_of (by kernel_rfl)
theorem ti136 : TI Try.prog 136 (.agg #[.int .i64 0, .int .i64 0]) 2 16 := ti_of (by kernel_rfl)
theorem ti137 : TI Try.prog 137 (.agg #[.int .i64 0, .int .i64 0]) 2 16 := ti_of (by kernel_rfl)
theorem ti138 : TI Try.prog 138 (.nilFunc) 1 8 := ti_of (by kernel_rfl)
theorem ti139 : TI Try.prog 139 (.agg #[.string ⟨#[]⟩]) 1 16 := ti_of (by kernel_rfl)
theorem ti140 : TI Try.prog 140 (.agg #[.string ⟨#[]⟩]) 1 16 := ti_of (by kernel_rfl)
theorem ti141 : TI Try.prog 141 (.nilFunc) 1 8 := ti_of (by kernel_rfl)
theorem ti142 : TI Try.prog 142 (.nilFunc) 1 8 := ti_of (by kernel_rfl)
theorem ti143 : TI Try.prog 143 (.tuple #[.agg #[.string ⟨#[]⟩], .bool false]) 1 0 := ti_of (by kernel_rfl)
theorem ti144 : TI Try.prog 144 (.nilFunc) 1 8 := ti_of (by kernel_rfl)
theorem ti145 : TI Try.prog 145 (.nilFunc) 1 8 := ti_of (by kernel_rfl)
theorem ti146 : TI Try.prog 146 (.nilFunc) 1 8 := ti_of (by kernel_rfl)
theorem ti147 : TI Try.prog 147 (.nilFunc) 1 8 := ti_of (by kernel_rfl)
theorem ti148 : TI Try.prog 148 (.nilFunc) 1 8 := ti_of (by kernel_rfl)
theorem ti149 : TI Try.prog 149 (.nilFunc) 1 8 := ti_of (by kernel_rfl)
theorem ti150 : TI Try.prog 150 (.nilFunc) 1 8 := ti_of (by kernel_rfl)
theorem ti151 : TI Try.prog 151 (.nilFunc) 1 8 := ti_of (by kernel_rfl)
theorem ti152 : TI Try.prog 152 (.nilFunc) 1 8 := ti_of (by kernel_rfl)
theorem ti153 : TI Try.prog 153 (.nilFunc) 1 8 := ti_of (by kernel_rfl)
theorem ti154 : TI Try.prog 154 (.nilFunc) 1 8 := ti_of (by kernel_rfl)
theorem ti155 : TI Try.prog 155 (.nilFunc) 1 8 := ti_of (by kernel_rfl)
theorem ti156 : TI Try.prog 156 (.nilFunc) 1 8 := ti_of (by kernel_rfl)
theorem ti157 : TI Try.prog 157 (.nilFunc) 1 8 := ti_of (by kernel_rfl)
theorem ti158 : TI Try.prog 158 (.nilFunc) 1 8 := ti_of (by kernel_rfl)
theorem ti159 : TI Try.prog 159 (.nilFunc) 1 8 := ti_of (by kernel_rfl)
theorem ti160 : TI Try.prog 160 (.nilFunc) 1 8 := ti_of (by kernel_rfl)
theorem ti161 : TI Try.prog 161 (.nilFunc) 1 8 := ti_of (by kernel_rfl)
theorem ti162 : TI Try.prog 162 (.nilFunc) 1 8 := ti_of (by kernel_rfl)
theorem ti163 : TI Try.prog 163 (.nilFunc) 1 8 := ti_of (by kernel_rfl)
theorem ti164 : TI Try.prog 164 (.nilFunc) 1 8 := ti_of (by kernel_rfl)
theorem ti165 : TI Try.prog 165 (.nilFunc) 1 8 := ti_of (by kernel_rfl)
theorem ti166 : TI Try.prog 166 (.nilFunc) 1 8 := ti_of (by kernel_rfl)
theorem ti167 : TI Try.prog 167 (.nilFunc) 1 8 := ti_of (by kernel_rfl)
theorem ti168 : TI Try.prog 168 (.nilFunc) 1 8 := ti_of (by kernel_rfl)
theorem ti169 : TI Try.prog 169 (.nilFunc) 1 8 := ti_of (by kernel_rfl)
theorem ti170 : TI Try.prog 170 (.nilFunc) 1 8 := ti_of (by kernel_rfl)
theorem ti171 : TI Try.prog 171 (.nilFunc) 1 8 := ti_of (by kernel_rfl)
theorem ti172 : TI Try.prog 172 (.nilFunc) 1 8 := ti_of (by kernel_rfl)
theorem ti173 : TI Try.prog 173 (.nilFunc) 1 8 := ti_of (by kernel_rfl)
theorem ti174 : TI Try.prog 174 (.nilFunc) 1 8 := ti_of (by kernel_rfl)
theorem ti175 : TI Try.prog 175 (.int .u64 0) 1 8 := ti_of (by kernel_rfl)
theorem ti176 : TI Try.prog 176 (.nilFunc) 1 8 := ti_of (by kernel_rfl)
theorem ti177 : TI Try.prog 177 (.nilFunc) 1 8 := ti_of (by kernel_rfl)
theorem ti178 : TI Try.prog 178 (.nilFunc) 1 8 := ti_of (by kernel_rfl)
theorem ti179 : TI Try.prog 179 (.nilFunc) 1 8 := ti_of (by kernel_rfl)
theorem ti180 : TI Try.prog 180 (.nilFunc) 1 8 := ti_of (by kernel_rfl)
theorem ti181 : TI Try.prog 181 (.nilFunc) 1 8 := ti_of (by kernel_rfl)
theorem ti182 : TI Try.prog 182 (.nilFunc) 1 8 := ti_of (by kernel_rfl)
theorem ti183 : TI Try.prog 183 (.int .i64 0) 1 8 := ti_of (by kernel_rfl)
theorem ti184 : TI Try.prog 184 (.tuple #[.int .i64 0, .int .i64 0]) 1 0 := ti_of (by kernel_rfl)
theorem ti185 : TI Try.prog 185 (.nilFunc) 1 8 := ti_of (by kernel_rfl)
theorem ti186 : TI Try.prog 186 (.nilFunc) 1 8 := ti_of (by kernel_rfl)
theorem ti187 : TI Try.prog 187 (.nilFunc) 1 8 := ti_of (by kernel_rfl)
theorem ti188 : TI Try.prog 188 (.nilFunc) 1 8 := ti_of (by kernel_rfl)
theorem ti189 : TI Try.prog 189 (.nilFunc) 1 8 := ti_of (by kernel_rfl)
theorem ti190 : TI Try.prog 190 (.int .u32 0) 1 4 := ti_of (by kernel_rfl)
theorem ti191 : TI Try.prog 191 (.nilFunc) 1 8 := ti_of (by kernel_rfl)
theorem ti192 : TI Try.prog 192 (.int .u64 0) 1 8 := ti_of (by kernel_rfl)
theorem ti193 : TI Try.prog 193 (.nilFunc) 1 8 := ti_of (by kernel_rfl)
theorem ti194 : TI Try.prog 194 (.nilFunc) 1 8 := ti_of (by kernel_rfl)
theorem ti195 : TI Try.prog 195 (.nilFunc) 1 8 := ti_of (by kernel_rfl)
theorem ti196 : TI Try.prog 196 (.nilFunc) 1 8 := ti_of (by kernel_rfl)
theorem ti197 : TI Try.prog 197 (.nilFunc) 1 8 := ti_of (by kernel_rfl)
theorem ti198 : TI Try.prog 198 (.int .u64 0) 1 8 := ti_of (by kernel_rfl)
theorem ti199 : TI Try.prog 199 (.nilFunc) 1 8 := ti_of (by kernel_rfl)
theorem ti200 : TI Try.prog 200 (.nilFunc) 1 8 := ti_of (by kernel_rfl)
theorem ti201 : TI Try.prog 201 (.nilFunc) 1 8 := ti_of (by kernel_rfl)
theorem ti202 : TI Try.prog 202 (.pointer none) 1 8 := ti_of (by kernel_rfl)
theorem ti203 : TI Try.prog 203 (.nilFunc) 1 8 := ti_of (by kernel_rfl)
theorem ti204 : TI Try.prog 204 (.nilFunc) 1 8 := ti_of (by kernel_rfl)
theorem ti205 : TI Try.prog 205 (.nilFunc) 1 8 := ti_of (by kernel_rfl)
theorem ti206 : TI Try.prog 206 (.nilFunc) 1 8 := ti_of (by kernel_rfl)
theorem ti207 : TI Try.prog 207 (.pointer none) 1 8 := ti_of (by kernel_rfl)
theorem ti208 : TI Try.prog 208 (.tuple #[.int .i64 0, .int .i64 0]) 1 0 := ti_of (by kernel_rfl)
theorem ti209 : TI Try.prog 209 (.nilFunc) 1 8 := ti_of (by kernel_rfl)
theorem ti210 : TI Try.prog 210 (.nilFunc) 1 8 := ti_of (by kernel_rfl)
theorem ti211 : TI Try.prog 211 (.nilFunc) 1 8 := ti_of (by kernel_rfl)
theorem ti212 : TI Try.prog 212 (.agg #[.pointer none, .pointer none, .pointer none, .string ⟨#[]⟩]) 4 40 := ti_of (by kernel_rfl)
theorem ti213 : TI Try.prog 213 (.agg #[.pointer none, .pointer none, .pointer none, .string ⟨#[]⟩]) 4 40 := ti_of (by kernel_rfl)
theorem ti214 : TI Try.prog 214 (.agg #[]) 0 0 := ti_of (by kernel_rfl)
theorem ti215 : TI Try.prog 215 (.agg #[]) 0 0 := ti_of (by kernel_rfl)
theorem ti216 : TI Try.prog 216 (.agg #[]) 0 0 := ti_of (by kernel_rfl)
theorem ti217 : TI Try.prog 217 (.nilFunc) 1 8 := ti_of (by kernel_rfl)
theorem ti218 : TI Try.prog 218 (.int .u8 0) 1 1 := ti_of (by kernel_rfl)
theorem ti219 : TI Try.prog 219 (.int .u8 0) 1 1 := ti_of (by kernel_rfl)
theorem ti220 : TI Try.prog 220 (.nilFunc) 1 8 := ti_of (by kernel_rfl)
theorem ti221 : TI Try.prog 221 (.pointer none) 1 8 := ti_of (by kernel_rfl)
theorem ti222 : TI Try.prog 222 (.int .i32 0) 1 4 := ti_of (by kernel_rfl)
theorem ti223 : TI Try.prog 223 (.int .i32 0) 1 4 := ti_of (by kernel_rfl)
theorem ti224 : TI Try.prog 224 (.agg #[.int .u64 0, .int .u64 0, .int .u32 0, .int .u8 0, .int .u8 0, .int .u8 0, .int .u8 0, .nilFunc, .pointer none, .int .i32 0, .int .i32 0]) 11 48 := ti_of (by kernel_rfl)
theorem ti225 : TI Try.prog 225 (.agg #[.int .u64 0, .int .u64 0, .int .u32 0, .int .u8 0, .int .u8 0, .int .u8 0, .int .u8 0, .nilFunc, .pointer none, .int .i32 0, .int .i32 0]) 11 48 := ti_of (by kernel_rfl)
theorem ti226 : TI Try.prog 226 (.pointer none) 1 8 := ti_of (by kernel_rfl)
theorem lone1 : Lone Try.prog 1 := lone_of Try.underlying1 rfl
theorem lone2 : Lone Try.prog 2 := lone_of Try.underlying2 rfl
theorem lone3 : Lone Try.prog 3 := lone_of Try.underlying3 rfl
theorem lone4 : Lone Try.prog 4 := lone_of Try.underlying4 rfl
theorem lone5 : Lone Try.prog 5 := lone_of Try.underlying5 rfl
theorem lone6 : Lone Try.prog 6 := lone_of Try.underlying6 rfl
theorem lone9 : Lone Try.prog 9 := lone_of Try.underlying9 rfl
theorem lone10 : Lone Try.prog 10 := lone_of Try.underlying10 rfl
theorem lone11 : Lone Try.prog 11 := lone_of Try.underlying11 rfl
theorem lone12 : Lone Try.prog 12 := lone_of Try.underlying12 rfl
theorem lone15 : Lone Try.prog 15 := lone_of Try.underlying15 rfl
theorem lone16 : Lone Try.prog 16 := lone_of Try.underlying16 rfl
theorem lone17 : Lone Try.prog 17 := lone_of Try.underlying17 rfl
theorem lone20 : Lone Try.prog 20 := lone_of Try.underlying20 rfl
theorem lone21 : Lone Try.prog 21 := lone_of Try.underlying21 rfl
theorem lone22 : Lone Try.prog 22 := lone_of Try.underlying22 rfl
theorem lone23 : Lone Try.prog 23 := lone_of Try.underlying23 rfl
theorem lone24 : Lone Try.prog 24 := lone_of Try.underlying24 rfl
theorem lone25 : Lone Try.prog 25 := lone_of Try.underlying25 rfl
theorem lone26 : Lone Try.prog 26 := lone_of Try.underlying26 rfl
theorem lone29 : Lone Try.prog 29 := lone_of Try.underlying29 rfl
theorem lone30 : Lone Try.prog 30 := lone_of Try.underlying30 rfl
theorem lone34 : Lone Try.prog 34 := lone_of Try.underlying34 rfl
theorem lone35 : Lone Try.prog 35 := lone_of Try.underlying35 rfl
theorem lone36 : Lone Try.prog 36 := lone_of Try.underlying36 rfl
theorem lone37 : Lone Try.prog 37 := lone_of Try.underlying37 rfl
theorem lone41 : Lone Try.prog 41 := lone_of Try.underlying41 rfl
theorem lone42 : Lone Try.prog 42 := lone_of Try.underlying42 rfl
theorem lone43 : Lone Try.prog 43 := lone_of Try.underlying43 rfl
theorem lone44 : Lone Try.prog 44 := lone_of Try.underlying44 rfl
theorem lone47 : Lone Try.prog 47 := lone_of Try.underlying47 rfl
theorem lone48 : Lone Try.prog 48 := lone_of Try.underlying48 rfl
theorem lone49 : Lone Try.prog 49 := lone_of Try.underlying49 rfl
theorem lone51 : Lone Try.prog 51 := lone_of Try.underlying51 rfl
theorem lone52 : Lone Try.prog 52 := lone_of Try.underlying52 rfl
theorem lone53 : Lone Try.prog 53 := lone_of Try.underlying53 rfl
theorem lone54 : Lone Try.prog 54 := lone_of Try.underlying54 rfl
theorem lone57 : Lone Try.prog 57 := lone_of Try.underlying57 rfl
theorem lone58 : Lone Try.prog 58 := lone_of Try.underlying58 rfl
theorem lone59 : Lone Try.prog 59 := lone_of Try.underlying59 rfl
theorem lone61 : Lone Try.prog 61 := lone_of Try.underlying61 rfl
theorem lone62 : Lone Try.prog 62 := lone_of Try.underlying62 rfl
theorem lone63 : Lone Try.prog 63 := lone_of Try.underlying63 rfl
theorem lone64 : Lone Try.prog 64 := lone_of Try.underlying64 rfl
theorem lone65 : Lone Try.prog 65 := lone_of Try.underlying65 rfl
theorem lone66 : Lone Try.prog 66 := lone_of Try.underlying66 rfl
theorem lone67 : Lone Try.prog 67 := lone_of Try.underlying67 rfl
theorem lone68 : Lone Try.prog 68 := lone_of Try.underlying68 rfl
theorem lone69 : Lone Try.prog 69 := lone_of Try.underlying69 rfl
theorem lone70 : Lone Try.prog 70 := lone_of Try.underlying70 rfl
theorem lone71 : Lone Try.prog 71 := lone_of Try.underlying71 rfl
theorem lone72 : Lone Try.prog 72 := lone_of Try.underlying72 rfl
theorem lone73 : Lone Try.prog 73 := lone_of Try.underlying73 rfl
theorem lone76 : Lone Try.prog 76 := lone_of Try.underlying76 rfl
theorem lone82 : Lone Try.prog 82 := lone_of Try.underlying82 rfl
theorem lone83 : Lone Try.prog 83 := lone_of Try.underlying83 rfl
theorem lone84 : Lone Try.prog 84 := lone_of Try.underlying84 rfl
theorem lone86 : Lone Try.prog 86 := lone_of Try.underlying86 rfl
theorem lone87 : Lone Try.prog 87 := lone_of Try.underlying87 rfl
theorem lone88 : Lone Try.prog 88 := lone_of Try.underlying88 rfl
theorem lone91 : Lone Try.prog 91 := lone_of Try.underlying91 rfl
theorem lone92 : Lone Try.prog 92 := lone_of Try.underlying92 rfl
theorem lone96 : Lone Try.prog 96 := lone_of Try.underlying96 rfl
theorem lone97 : Lone Try.prog 97 := lone_of Try.underlying97 rfl
theorem lone99 : Lone Try.prog 99 := lone_of Try.underlying99 rfl
theorem lone100 : Lone Try.prog 100 := lone_of Try.underlying100 rfl
theorem lone102 : Lone Try.prog 102 := lone_of Try.underlying102 rfl
theorem lone103 : Lone Try.prog 103 := lone_of Try.underlying103 rfl
theorem lone105 : Lone Try.prog 105 := lone_of Try.underlying105 rfl
theorem lone107 : Lone Try.prog 107 := lone_of Try.underlying107 rfl
theorem lone108 : Lone Try.prog 108 := lone_of Try.underlying108 rfl
theorem lone109 : Lone Try.prog 109 := lone_of Try.underlying109 rfl
theorem lone110 : Lone Try.prog 110 := lone_of Try.underlying110 rfl
theorem lone111 : Lone Try.prog 111 := lone_of Try.underlying111 rfl
theorem lone112 : Lone Try.prog 112 := lone_of Try.underlying112 rfl
theorem lone115 : Lone Try.prog 115 := lone_of Try.underlying115 rfl
theorem lone116 : Lone Try.prog 116 := lone_of Try.underlying116 rfl
theorem lone117 : Lone Try.prog 117 := lone_of Try.underlying117 rfl
theorem lone118 : Lone Try.prog 118 := lone_of Try.underlying118 rfl
theorem lone121 : Lone Try.prog 121 := lone_of Try.underlying121 rfl
theorem lone122 : Lone Try.prog 122 := lone_of Try.underlying122 rfl
theorem lone124 : Lone Try.prog 124 := lone_of Try.underlying124 rfl
theorem lone126 : Lone Try.prog 126 := lone_of Try.underlying126 rfl
theorem lone127 : Lone Try.prog 127 := lone_of Try.underlying127 rfl
theorem lone128 : Lone Try.prog 128 := lone_of Try.underlying128 rfl
theorem lone130 : Lone Try.prog 130 := lone_of Try.underlying130 rfl
theorem lone131 : Lone Try.prog 131 := lone_of Try.underlying131 rfl
theorem lone132 : Lone Try.prog 132 := lone_of Try.underlying132 rfl
theorem lone133 : Lone Try.prog 133 := lone_of Try.underlying133 rfl
theorem lone138 : Lone Try.prog 138 := lone_of Try.underlying138 rfl
theorem lone141 : Lone Try.prog 141 := lone_of Try.underlying141 rfl
theorem lone142 : Lone Try.prog 142 := lone_of Try.underlying142 rfl
theorem lone144 : Lone Try.prog 144 := lone_of Try.underlying144 rfl
theorem lone145 : Lone Try.prog 145 := lone_of Try.underlying145 rfl
theorem lone146 : Lone Try.prog 146 := lone_of Try.underlying146 rfl
theorem lone147 : Lone Try.prog 147 := lone_of Try.underlying147 rfl
theorem lone148 : Lone Try.prog 148 := lone_of Try.underlying148 rfl
theorem lone149 : Lone Try.prog 149 := lone_of Try.underlying149 rfl
theorem lone150 : Lone Try.prog 150 := lone_of Try.underlying150 rfl
theorem lone151 : Lone Try.prog 151 := lone_of Try.underlying151 rfl
theorem lone152 : Lone Try.prog 152 := lone_of Try.underlying152 rfl
theorem lone153 : Lone Try.prog 153 := lone_of Try.underlying153 rfl
theorem lone154 : Lone Try.prog 154 := lone_of Try.underlying154 rfl
theorem lone155 : Lone Try.prog 155 := lone_of Try.underlying155 rfl
theorem lone156 : Lone Try.prog 156 := lone_of Try.underlying156 rfl
theorem lone157 : Lone Try.prog 157 := lone_of Try.underlying157 rfl
theorem lone158 : Lone Try.prog 158 := lone_of Try.underlying158 rfl
theorem lone159 : Lone Try.prog 159 := lone_of Try.underlying159 rfl
theorem lone160 : Lone Try.prog 160 := lone_of Try.underlying160 rfl
theorem lone161 : Lone Try.prog 161 := lone_of Try.underlying161 rfl
theorem lone162 : Lone Try.prog 162 := lone_of Try.underlying162 rfl
theorem lone163 : Lone Try.prog 163 := lone_of Try.underlying163 rfl
theorem lone164 : Lone Try.prog 164 := lone_of Try.underlying164 rfl
theorem lone165 : Lone Try.prog 165 := lone_of Try.underlying165 rfl
theorem lone166 : Lone Try.prog 166 := lone_of Try.underlying166 rfl
theorem lone167 : Lone Try.prog 167 := lone_of Try.underlying167 rfl
theorem lone168 : Lone Try.prog 168 := lone_of Try.underlying168 rfl
theorem lone169 : Lone Try.prog 169 := lone_of Try.underlying169 rfl
theorem lone170 : Lone Try.prog 170 := lone_of Try.underlying170 rfl
theorem lone171 : Lone Try.prog 171 := lone_of Try.underlying171 rfl
theorem lone172 : Lone Try.prog 172 := lone_of Try.underlying172 rfl
theorem lone173 : Lone Try.prog 173 := lone_of Try.underlying173 rfl
theorem lone174 : Lone Try.prog 174 := lone_of Try.underlying174 rfl
theorem lone175 : Lone Try.prog 175 := lone_of Try.underlying175 rfl
theorem lone176 : Lone Try.prog 176 := lone_of Try.underlying176 rfl
theorem lone177 : Lone Try.prog 177 := lone_of Try.underlying177 rfl
theorem lone178 : Lone Try.prog 178 := lone_of Try.underlying178 rfl
theorem lone179 : Lone Try.prog 179 := lone_of Try.underlying179 rfl
theorem lone180 : Lone Try.prog 180 := lone_of Try.underlying180 rfl
theorem lone181 : Lone Try.prog 181 := lone_of Try.underlying181 rfl
theorem lone182 : Lone Try.prog 182 := lone_of Try.underlying182 rfl
theorem lone183 : Lone Try.prog 183 := lone_of Try.underlying183 rfl
theorem lone185 : Lone Try.prog 185 := lone_of Try.underlying185 rfl
theorem lone186 : Lone Try.prog 186 := lone_of Try.underlying186 rfl
theorem lone187 : Lone Try.prog 187 := lone_of Try.underlying187 rfl
theorem lone188 : Lone Try.prog 188 := lone_of Try.underlying188 rfl
theorem lone189 : Lone Try.prog 189 := lone_of Try.underlying189 rfl
theorem lone190 : Lone Try.prog 190 := lone_of Try.underlying190 rfl
theorem lone191 : Lone Try.prog 191 := lone_of Try.underlying191 rfl
theorem lone192 : Lone Try.prog 192 := lone_of Try.underlying192 rfl
theorem lone193 : Lone Try.prog 193 := lone_of Try.underlying193 rfl
theorem lone194 : Lone Try.prog 194 := lone_of Try.underlying194 rfl
theorem lone195 : Lone Try.prog 195 := lone_of Try.underlying195 rfl
theorem lone196 : Lone Try.prog 196 := lone_of Try.underlying196 rfl
theorem lone197 : Lone Try.prog 197 := lone_of Try.underlying197 rfl
theorem lone198 : Lone Try.prog 198 := lone_of Try.underlying198 rfl
theorem lone199 : Lone Try.prog 199 := lone_of Try.underlying199 rfl
theorem lone200 : Lone Try.prog 200 := lone_of Try.underlying200 rfl
theorem lone201 : Lone Try.prog 201 := lone_of Try.underlying201 rfl
theorem lone202 : Lone Try.prog 202 := lone_of Try.underlying202 rfl
theorem lone203 : Lone Try.prog 203 := lone_of Try.underlying203 rfl
theorem lone204 : Lone Try.prog 204 := lone_of Try.underlying204 rfl
theorem lone205 : Lone Try.prog 205 := lone_of Try.underlying205 rfl
theorem lone206 : Lone Try.prog 206 := lone_of Try.underlying206 rfl
theorem lone207 : Lone Try.prog 207 := lone_of Try.underlying207 rfl
theorem lone209 : Lone Try.prog 209 := lone_of Try.underlying209 rfl
theorem lone210 : Lone Try.prog 210 := lone_of Try.underlying210 rfl
theorem lone211 : Lone Try.prog 211 := lone_of Try.underlying211 rfl
theorem lone217 : Lone Try.prog 217 := lone_of Try.underlying217 rfl
theorem lone218 : Lone Try.prog 218 := lone_of Try.underlying218 rfl
theorem lone219 : Lone Try.prog 219 := lone_of Try.underlying219 rfl
theorem lone220 : Lone Try.prog 220 := lone_of Try.underlying220 rfl
theorem lone221 : Lone Try.prog 221 := lone_of Try.underlying221 rfl
theorem lone222 : Lone Try.prog 222 := lone_of Try.underlying222 rfl
theorem lone223 : Lone Try.prog 223 := lone_of Try.underlying223 rfl
theorem lone226 : Lone Try.prog 226 := lone_of Try.underlying226 rfl
-- 0 main.main
-- 1 gosem.cut
-- 2 gosem.cut.init
-- 3 quiltwork/quiltworklaw13.WatchAll
theorem cl3 : Callable Try.prog 3 := callable_of Try.func3 (by kernel_rfl) (by kernel_rfl)
-- 4 quiltwork/quiltworklaw13.WatchGaps
theorem cl4 : Callable Try.prog 4 := callable_of Try.func4 (by kernel_rfl) (by kernel_rfl)
-- 5 quiltwork/quiltworklaw13.WatchNone
theorem cl5 : Callable Try.prog 5 := callable_of Try.func5 (by kernel_rfl) (by kernel_rfl)
-- 6 quiltwork/quiltworklaw13.WatchOwn
theorem cl6 : Callable Try.prog 6 := callable_of Try.func6 (by kernel_rfl) (by kernel_rfl)
-- 7 quiltwork/quiltworklaw13.WatchParts
theorem cl7 : Callable Try.prog 7 := callable_of Try.func7 (by kernel_rfl) (by kernel_rfl)
-- 8 quiltwork/quiltworklaw12.LockModes
theorem cl8 : Callable Try.prog 8 := callable_of Try.func8 (by kernel_rfl) (by kernel_rfl)
-- 9 quiltwork/quiltworklaw12.LockAll
theorem cl9 : Callable Try.prog 9 := callable_of Try.func9 (by kernel_rfl) (by kernel_rfl)
-- 10 quiltwork/quiltworklaw12.LockFits
theorem cl10 : Callable Try.prog 10 := callable_of Try.func10 (by kernel_rfl) (by kernel_rfl)
-- 11 quiltwork/quiltworklaw12.LockStuck
theorem cl11 : Callable Try.prog 11 := callable_of Try.func11 (by kernel_rfl) (by kernel_rfl)
-- 12 quiltwork/quiltworklaw12.LockRises
theorem cl12 : Callable Try.prog 12 := callable_of Try.func12 (by kernel_rfl) (by kernel_rfl)
-- 13 quiltwork/quiltworklaw12.LockServes
theorem cl13 : Callable Try.prog 13 := callable_of Try.func13 (by kernel_rfl) (by kernel_rfl)
-- 14 quiltwork/quiltworklaw12.LockAlone
theorem cl14 : Callable Try.prog 14 := callable_of Try.func14 (by kernel_rfl) (by kernel_rfl)
-- 15 quiltwork/quiltworklaw13.few
theorem cl15 : Callable Try.prog 15 := callable_of Try.func15 (by kernel_rfl) (by kernel_rfl)
-- 16 quiltwork/quiltworklaw13.alive
theorem cl16 : Callable Try.prog 16 := callable_of Try.func16 (by kernel_rfl) (by kernel_rfl)
-- 17 quiltwork/quiltworklaw13.does
theorem cl17 : Callable Try.prog 17 := callable_of Try.func17 (by kernel_rfl) (by kernel_rfl)
-- 18 (*quiltwork/watch.Hub).Ids
theorem cl18 : Callable Try.prog 18 := callable_of Try.func18 (by kernel_rfl) (by kernel_rfl)
-- 19 (*quiltwork/watch.Hub).Prefix
theorem cl19 : Callable Try.prog 19 := callable_of Try.func19 (by kernel_rfl) (by kernel_rfl)
-- 20 (*quiltwork/watch.Hub).Waiting
theorem cl20 : Callable Try.prog 20 := callable_of Try.func20 (by kernel_rfl) (by kernel_rfl)
-- 21 quiltwork/quiltworkref13.At
theorem cl21 : Callable Try.prog 21 := callable_of Try.func21 (by kernel_rfl) (by kernel_rfl)
-- 22 (*quiltwork/watch.Hub).Add
theorem cl22 : Callable Try.prog 22 := callable_of Try.func22 (by kernel_rfl) (by kernel_rfl)
-- 23 (*quiltwork/watch.Hub).Take
theorem cl23 : Callable Try.prog 23 := callable_of Try.func23 (by kernel_rfl) (by kernel_rfl)
-- 24 quiltwork/quiltworklaw13.Old
theorem cl24 : Callable Try.prog 24 := callable_of Try.func24 (by kernel_rfl) (by kernel_rfl)
-- 25 (*quiltwork/watch.Hub).Push
theorem cl25 : Callable Try.prog 25 := callable_of Try.func25 (by kernel_rfl) (by kernel_rfl)
-- 26 quiltwork/quiltworkref13.Touched
theorem cl26 : Callable Try.prog 26 := callable_of Try.func26 (by kernel_rfl) (by kernel_rfl)
-- 27 quiltwork/quiltworklaw13.covers
theorem cl27 : Callable Try.prog 27 := callable_of Try.func27 (by kernel_rfl) (by kernel_rfl)
-- 28 quiltwork/quiltworkref13.Same
theorem cl28 : Callable Try.prog 28 := callable_of Try.func28 (by kernel_rfl) (by kernel_rfl)
-- 29 (*quiltwork/watch.Hub).Drop
theorem cl29 : Callable Try.prog 29 := callable_of Try.func29 (by kernel_rfl) (by kernel_rfl)
-- 30 quiltwork/lock.Both
theorem cl30 : Callable Try.prog 30 := callable_of Try.func30 (by kernel_rfl) (by kernel_rfl)
-- 31 quiltwork/quiltworklaw12.LockModes$1
theorem cl31 : Callable Try.prog 31 := callable_of Try.func31 (by kernel_rfl) (by kernel_rfl)
-- 32 quiltwork/lock.Fits
theorem cl32 : Callable Try.prog 32 := callable_of Try.func32 (by kernel_rfl) (by kernel_rfl)
-- 33 quiltwork/quiltworkref12.Fits
theorem cl33 : Callable Try.prog 33 := callable_of Try.func33 (by kernel_rfl) (by kernel_rfl)
-- 34 quiltwork/quiltworkref12.Both
theorem cl34 : Callable Try.prog 34 := callable_of Try.func34 (by kernel_rfl) (by kernel_rfl)
-- 35 quiltwork/quiltworklaw12.alive
theorem cl35 : Callable Try.prog 35 := callable_of Try.func35 (by kernel_rfl) (by kernel_rfl)
-- 36 quiltwork/quiltworklaw12.few
theorem cl36 : Callable Try.prog 36 := callable_of Try.func36 (by kernel_rfl) (by kernel_rfl)
-- 37 quiltwork/quiltworklaw12.does
theorem cl37 : Callable Try.prog 37 := callable_of Try.func37 (by kernel_rfl) (by kernel_rfl)
-- 38 quiltwork/quiltworklaw12.stands
theorem cl38 : Callable Try.prog 38 := callable_of Try.func38 (by kernel_rfl) (by kernel_rfl)
-- 39 (*quiltwork/lock.Table).Holders
theorem cl39 : Callable Try.prog 39 := callable_of Try.func39 (by kernel_rfl) (by kernel_rfl)
-- 40 (*quiltwork/lock.Table).Has
theorem cl40 : Callable Try.prog 40 := callable_of Try.func40 (by kernel_rfl) (by kernel_rfl)
-- 41 (*quiltwork/lock.Table).Queue
theorem cl41 : Callable Try.prog 41 := callable_of Try.func41 (by kernel_rfl) (by kernel_rfl)
-- 42 quiltwork/quiltworklaw12.inTheWay
theorem cl42 : Callable Try.prog 42 := callable_of Try.func42 (by kernel_rfl) (by kernel_rfl)
-- 43 (*quiltwork/lock.Table).Stuck
theorem cl43 : Callable Try.prog 43 := callable_of Try.func43 (by kernel_rfl) (by kernel_rfl)
-- 44 quiltwork/quiltworkref12.Stuck
theorem cl44 : Callable Try.prog 44 := callable_of Try.func44 (by kernel_rfl) (by kernel_rfl)
-- 45 (*quiltwork/lock.Table).Free
theorem cl45 : Callable Try.prog 45 := callable_of Try.func45 (by kernel_rfl) (by kernel_rfl)
-- 46 (*quiltwork/lock.Table).Ask
theorem cl46 : Callable Try.prog 46 := callable_of Try.func46 (by kernel_rfl) (by kernel_rfl)
-- 47 (*quiltwork/lock.Table).Waits
theorem cl47 : Callable Try.prog 47 := callable_of Try.func47 (by kernel_rfl) (by kernel_rfl)
-- 48 (*quiltwork/watch.Hub).Copy
theorem cl48 : Callable Try.prog 48 := callable_of Try.func48 (by kernel_rfl) (by kernel_rfl)
-- 49 quiltwork/quiltworkref13.Add
theorem cl49 : Callable Try.prog 49 := callable_of Try.func49 (by kernel_rfl) (by kernel_rfl)
-- 50 quiltwork/quiltworkref13.Drop
theorem cl50 : Callable Try.prog 50 := callable_of Try.func50 (by kernel_rfl) (by kernel_rfl)
-- 51 quiltwork/quiltworkref13.Push
theorem cl51 : Callable Try.prog 51 := callable_of Try.func51 (by kernel_rfl) (by kernel_rfl)
-- 52 quiltwork/quiltworkref13.Take
theorem cl52 : Callable Try.prog 52 := callable_of Try.func52 (by kernel_rfl) (by kernel_rfl)
-- 53 slices.Sorted[int]
theorem cl53 : Callable Try.prog 53 := callable_of Try.func53 (by kernel_rfl) (by kernel_rfl)
-- 54 maps.Keys[map[int]*quiltwork/watch.watcher,int,*quiltwork/watch.watcher]
theorem cl54 : Callable Try.prog 54 := callable_of Try.func54 (by kernel_rfl) (by kernel_rfl)
-- 55 slices.Clone[[]quiltwork/watch.Note,quiltwork/watch.Note]
theorem cl55 : Callable Try.prog 55 := callable_of Try.func55 (by kernel_rfl) (by kernel_rfl)
-- 56 (*quiltwork/watch.Hub).touched
theorem cl56 : Callable Try.prog 56 := callable_of Try.func56 (by kernel_rfl) (by kernel_rfl)
-- 57 quiltwork/quiltworkref13.begins
theorem cl57 : Callable Try.prog 57 := callable_of Try.func57 (by kernel_rfl) (by kernel_rfl)
-- 58 quiltwork/lock.mode
theorem cl58 : Callable Try.prog 58 := callable_of Try.func58 (by kernel_rfl) (by kernel_rfl)
-- 59 quiltwork/lock.fits
theorem cl59 : Callable Try.prog 59 := callable_of Try.func59 (by kernel_rfl) (by kernel_rfl)
-- 60 (*quiltwork/lock.Table).Copy
theorem cl60 : Callable Try.prog 60 := callable_of Try.func60 (by kernel_rfl) (by kernel_rfl)
-- 61 quiltwork/quiltworkref12.Ask
theorem cl61 : Callable Try.prog 61 := callable_of Try.func61 (by kernel_rfl) (by kernel_rfl)
-- 62 quiltwork/quiltworkref12.Free
theorem cl62 : Callable Try.prog 62 := callable_of Try.func62 (by kernel_rfl) (by kernel_rfl)
-- 63 quiltwork/quiltworklaw12.numbers
theorem cl63 : Callable Try.prog 63 := callable_of Try.func63 (by kernel_rfl) (by kernel_rfl)
-- 64 quiltwork/quiltworkref12.Get
theorem cl64 : Callable Try.prog 64 := callable_of Try.func64 (by kernel_rfl) (by kernel_rfl)
-- 65 quiltwork/quiltworkref12.Waits
theorem cl65 : Callable Try.prog 65 := callable_of Try.func65 (by kernel_rfl) (by kernel_rfl)
-- 66 quiltwork/quiltworkref12.Queue
theorem cl66 : Callable Try.prog 66 := callable_of Try.func66 (by kernel_rfl) (by kernel_rfl)
-- 67 maps.Keys[map[int]int,int,int]
theorem cl67 : Callable Try.prog 67 := callable_of Try.func67 (by kernel_rfl) (by kernel_rfl)
-- 68 maps.Clone[map[int]quiltwork/lock.goal,int,quiltwork/lock.goal]
theorem cl68 : Callable Try.prog 68 := callable_of Try.func68 (by kernel_rfl) (by kernel_rfl)
-- 69 maps.Keys[map[int]quiltwork/lock.goal,int,quiltwork/lock.goal]
theorem cl69 : Callable Try.prog 69 := callable_of Try.func69 (by kernel_rfl) (by kernel_rfl)
-- 70 slices.ContainsFunc[[]int,int]
theorem cl70 : Callable Try.prog 70 := callable_of Try.func70 (by kernel_rfl) (by kernel_rfl)
-- 71 (*quiltwork/lock.Table).ahead
theorem cl71 : Callable Try.prog 71 := callable_of Try.func71 (by kernel_rfl) (by kernel_rfl)
-- 72 (*quiltwork/lock.Table).Stuck$1
theorem cl72 : Callable Try.prog 72 := callable_of Try.func72 (by kernel_rfl) (by kernel_rfl)
-- 73 quiltwork/quiltworkref12.blocked
theorem cl73 : Callable Try.prog 73 := callable_of Try.func73 (by kernel_rfl) (by kernel_rfl)
-- 74 (*quiltwork/lock.Table).leaves
theorem cl74 : Callable Try.prog 74 := callable_of Try.func74 (by kernel_rfl) (by kernel_rfl)
-- 75 slices.Sorted[string]
theorem cl75 : Callable Try.prog 75 := callable_of Try.func75 (by kernel_rfl) (by kernel_rfl)
-- 76 maps.Keys[map[string]quiltwork/lock.place,string,quiltwork/lock.place]
theorem cl76 : Callable Try.prog 76 := callable_of Try.func76 (by kernel_rfl) (by kernel_rfl)
-- 77 (quiltwork/lock.place).may
theorem cl77 : Callable Try.prog 77 := callable_of Try.func77 (by kernel_rfl) (by kernel_rfl)
-- 78 (*quiltwork/lock.Table).put
theorem cl78 : Callable Try.prog 78 := callable_of Try.func78 (by kernel_rfl) (by kernel_rfl)
-- 79 slices.Sort[[]int,int]
theorem cl79 : Callable Try.prog 79 := callable_of Try.func79 (by kernel_rfl) (by kernel_rfl)
-- 80 slices.Compact[[]int,int]
theorem cl80 : Callable Try.prog 80 := callable_of Try.func80 (by kernel_rfl) (by kernel_rfl)
-- 81 (*quiltwork/lock.Table).at
theorem cl81 : Callable Try.prog 81 := callable_of Try.func81 (by kernel_rfl) (by kernel_rfl)
-- 82 slices.IndexFunc[[]quiltwork/lock.want,quiltwork/lock.want]
theorem cl82 : Callable Try.prog 82 := callable_of Try.func82 (by kernel_rfl) (by kernel_rfl)
-- 83 (*quiltwork/lock.Table).Ask$1
theorem cl83 : Callable Try.prog 83 := callable_of Try.func83 (by kernel_rfl) (by kernel_rfl)
-- 84 slices.Insert[[]quiltwork/lock.want,quiltwork/lock.want]
theorem cl84 : Callable Try.prog 84 := callable_of Try.func84 (by kernel_rfl) (by kernel_rfl)
-- 85 slices.Clone[[]quiltwork/lock.want,quiltwork/lock.want]
theorem cl85 : Callable Try.prog 85 := callable_of Try.func85 (by kernel_rfl) (by kernel_rfl)
-- 86 quiltwork/watch.own
theorem cl86 : Callable Try.prog 86 := callable_of Try.func86 (by kernel_rfl) (by kernel_rfl)
-- 87 slices.Collect[int]
theorem cl87 : Callable Try.prog 87 := callable_of Try.func87 (by kernel_rfl) (by kernel_rfl)
-- 88 maps.Keys[map[int]*quiltwork/watch.watcher,int,*quiltwork/watch.watcher]$1
theorem cl88 : Callable Try.prog 88 := callable_of Try.func88 (by kernel_rfl) (by kernel_rfl)
-- 89 slices.Compact[[]string,string]
theorem cl89 : Callable Try.prog 89 := callable_of Try.func89 (by kernel_rfl) (by kernel_rfl)
-- 90 slices.Values[[]string,string]
theorem cl90 : Callable Try.prog 90 := callable_of Try.func90 (by kernel_rfl) (by kernel_rfl)
-- 91 (*quiltwork/watch.Hub).touched$1
theorem cl91 : Callable Try.prog 91 := callable_of Try.func91 (by kernel_rfl) (by kernel_rfl)
-- 92 slices.DeleteFunc[[]string,string]
theorem cl92 : Callable Try.prog 92 := callable_of Try.func92 (by kernel_rfl) (by kernel_rfl)
-- 93 slices.Clone[[]string,string]
theorem cl93 : Callable Try.prog 93 := callable_of Try.func93 (by kernel_rfl) (by kernel_rfl)
-- 94 (*quiltwork/watch.Hub).touched$1$1
theorem cl94 : Callable Try.prog 94 := callable_of Try.func94 (by kernel_rfl) (by kernel_rfl)
-- 95 strings.HasPrefix
theorem cl95 : Callable Try.prog 95 := callable_of Try.func95 (by kernel_rfl) (by kernel_rfl)
-- 96 maps.Clone[map[int]int,int,int]
theorem cl96 : Callable Try.prog 96 := callable_of Try.func96 (by kernel_rfl) (by kernel_rfl)
-- 97 quiltwork/quiltworkref12.may
theorem cl97 : Callable Try.prog 97 := callable_of Try.func97 (by kernel_rfl) (by kernel_rfl)
-- 98 quiltwork/quiltworkref12.gets
theorem cl98 : Callable Try.prog 98 := callable_of Try.func98 (by kernel_rfl) (by kernel_rfl)
-- 99 quiltwork/quiltworkref12.without
theorem cl99 : Callable Try.prog 99 := callable_of Try.func99 (by kernel_rfl) (by kernel_rfl)
-- 100 quiltwork/quiltworkref12.first
theorem cl100 : Callable Try.prog 100 := callable_of Try.func100 (by kernel_rfl) (by kernel_rfl)
-- 101 maps.Keys[map[int]int,int,int]$1
theorem cl101 : Callable Try.prog 101 := callable_of Try.func101 (by kernel_rfl) (by kernel_rfl)
-- 102 maps.clone
-- 103 maps.Keys[map[int]quiltwork/lock.goal,int,quiltwork/lock.goal]$1
theorem cl103 : Callable Try.prog 103 := callable_of Try.func103 (by kernel_rfl) (by kernel_rfl)
-- 104 slices.IndexFunc[[]int,int]
theorem cl104 : Callable Try.prog 104 := callable_of Try.func104 (by kernel_rfl) (by kernel_rfl)
-- 105 slices.DeleteFunc[[]quiltwork/lock.want,quiltwork/lock.want]
theorem cl105 : Callable Try.prog 105 := callable_of Try.func105 (by kernel_rfl) (by kernel_rfl)
-- 106 (*quiltwork/lock.Table).leaves$1
theorem cl106 : Callable Try.prog 106 := callable_of Try.func106 (by kernel_rfl) (by kernel_rfl)
-- 107 slices.Collect[string]
theorem cl107 : Callable Try.prog 107 := callable_of Try.func107 (by kernel_rfl) (by kernel_rfl)
-- 108 slices.Sort[[]string,string]
theorem cl108 : Callable Try.prog 108 := callable_of Try.func108 (by kernel_rfl) (by kernel_rfl)
-- 109 maps.Keys[map[string]quiltwork/lock.place,string,quiltwork/lock.place]$1
theorem cl109 : Callable Try.prog 109 := callable_of Try.func109 (by kernel_rfl) (by kernel_rfl)
-- 110 slices.pdqsortOrdered[int]
theorem cl110 : Callable Try.prog 110 := callable_of Try.func110 (by kernel_rfl) (by kernel_rfl)
-- 111 math/bits.Len
theorem cl111 : Callable Try.prog 111 := callable_of Try.func111 (by kernel_rfl) (by kernel_rfl)
-- 112 slices.overlaps[quiltwork/lock.want]
-- 113 slices.rotateRight[quiltwork/lock.want]
theorem cl113 : Callable Try.prog 113 := callable_of Try.func113 (by kernel_rfl) (by kernel_rfl)
-- 114 slices.AppendSeq[[]int,int]
theorem cl114 : Callable Try.prog 114 := callable_of Try.func114 (by kernel_rfl) (by kernel_rfl)
-- 115 slices.Values[[]string,string]$1
theorem cl115 : Callable Try.prog 115 := callable_of Try.func115 (by kernel_rfl) (by kernel_rfl)
-- 116 slices.IndexFunc[[]string,string]
theorem cl116 : Callable Try.prog 116 := callable_of Try.func116 (by kernel_rfl) (by kernel_rfl)
-- 117 internal/stringslite.HasPrefix
theorem cl117 : Callable Try.prog 117 := callable_of Try.func117 (by kernel_rfl) (by kernel_rfl)
-- 118 slices.AppendSeq[[]string,string]
theorem cl118 : Callable Try.prog 118 := callable_of Try.func118 (by kernel_rfl) (by kernel_rfl)
-- 119 slices.pdqsortOrdered[string]
theorem cl119 : Callable Try.prog 119 := callable_of Try.func119 (by kernel_rfl) (by kernel_rfl)
-- 120 slices.insertionSortOrdered[int]
theorem cl120 : Callable Try.prog 120 := callable_of Try.func120 (by kernel_rfl) (by kernel_rfl)
-- 121 slices.heapSortOrdered[int]
theorem cl121 : Callable Try.prog 121 := callable_of Try.func121 (by kernel_rfl) (by kernel_rfl)
-- 122 slices.breakPatternsOrdered[int]
theorem cl122 : Callable Try.prog 122 := callable_of Try.func122 (by kernel_rfl) (by kernel_rfl)
-- 123 slices.choosePivotOrdered[int]
theorem cl123 : Callable Try.prog 123 := callable_of Try.func123 (by kernel_rfl) (by kernel_rfl)
-- 124 slices.reverseRangeOrdered[int]
theorem cl124 : Callable Try.prog 124 := callable_of Try.func124 (by kernel_rfl) (by kernel_rfl)
-- 125 slices.partialInsertionSortOrdered[int]
theorem cl125 : Callable Try.prog 125 := callable_of Try.func125 (by kernel_rfl) (by kernel_rfl)
-- 126 cmp.Less[int]
theorem cl126 : Callable Try.prog 126 := callable_of Try.func126 (by kernel_rfl) (by kernel_rfl)
-- 127 slices.partitionEqualOrdered[int]
theorem cl127 : Callable Try.prog 127 := callable_of Try.func127 (by kernel_rfl) (by kernel_rfl)
-- 128 slices.partitionOrdered[int]
theorem cl128 : Callable Try.prog 128 := callable_of Try.func128 (by kernel_rfl) (by kernel_rfl)
-- 129 math/bits.Len32
theorem cl129 : Callable Try.prog 129 := callable_of Try.func129 (by kernel_rfl) (by kernel_rfl)
-- 130 math/bits.Len64
theorem cl130 : Callable Try.prog 130 := callable_of Try.func130 (by kernel_rfl) (by kernel_rfl)
-- 131 slices.rotateLeft[quiltwork/lock.want]
theorem cl131 : Callable Try.prog 131 := callable_of Try.func131 (by kernel_rfl) (by kernel_rfl)
-- 132 slices.insertionSortOrdered[string]
theorem cl132 : Callable Try.prog 132 := callable_of Try.func132 (by kernel_rfl) (by kernel_rfl)
-- 133 slices.heapSortOrdered[string]
theorem cl133 : Callable Try.prog 133 := callable_of Try.func133 (by kernel_rfl) (by kernel_rfl)
-- 134 slices.breakPatternsOrdered[string]
theorem cl134 : Callable Try.prog 134 := callable_of Try.func134 (by kernel_rfl) (by kernel_rfl)
-- 135 slices.choosePivotOrdered[string]
theorem cl135 : Callable Try.prog 135 := callable_of Try.func135 (by kernel_rfl) (by kernel_rfl)
-- 136 slices.reverseRangeOrdered[string]
theorem cl136 : Callable Try.prog 136 := callable_of Try.func136 (by kernel_rfl) (by kernel_rfl)
-- 137 slices.partialInsertionSortOrdered[string]
theorem cl137 : Callable Try.prog 137 := callable_of Try.func137 (by kernel_rfl) (by kernel_rfl)
-- 138 cmp.Less[string]
theorem cl138 : Callable Try.prog 138 := callable_of Try.func138 (by kernel_rfl) (by kernel_rfl)
-- 139 slices.partitionEqualOrdered[string]
theorem cl139 : Callable Try.prog 139 := callable_of Try.func139 (by kernel_rfl) (by kernel_rfl)
-- 140 slices.partitionOrdered[string]
theorem cl140 : Callable Try.prog 140 := callable_of Try.func140 (by kernel_rfl) (by kernel_rfl)
-- 141 slices.siftDownOrdered[int]
theorem cl141 : Callable Try.prog 141 := callable_of Try.func141 (by kernel_rfl) (by kernel_rfl)
-- 142 slices.nextPowerOfTwo
theorem cl142 : Callable Try.prog 142 := callable_of Try.func142 (by kernel_rfl) (by kernel_rfl)
-- 143 (*slices.xorshift).Next
theorem cl143 : Callable Try.prog 143 := callable_of Try.func143 (by kernel_rfl) (by kernel_rfl)
-- 144 slices.medianAdjacentOrdered[int]
theorem cl144 : Callable Try.prog 144 := callable_of Try.func144 (by kernel_rfl) (by kernel_rfl)
-- 145 slices.medianOrdered[int]
theorem cl145 : Callable Try.prog 145 := callable_of Try.func145 (by kernel_rfl) (by kernel_rfl)
-- 146 cmp.isNaN[int]
theorem cl146 : Callable Try.prog 146 := callable_of Try.func146 (by kernel_rfl) (by kernel_rfl)
-- 147 slices.Reverse[[]quiltwork/lock.want,quiltwork/lock.want]
theorem cl147 : Callable Try.prog 147 := callable_of Try.func147 (by kernel_rfl) (by kernel_rfl)
-- 148 slices.siftDownOrdered[string]
theorem cl148 : Callable Try.prog 148 := callable_of Try.func148 (by kernel_rfl) (by kernel_rfl)
-- 149 slices.medianAdjacentOrdered[string]
theorem cl149 : Callable Try.prog 149 := callable_of Try.func149 (by kernel_rfl) (by kernel_rfl)
-- 150 slices.medianOrdered[string]
theorem cl150 : Callable Try.prog 150 := callable_of Try.func150 (by kernel_rfl) (by kernel_rfl)
-- 151 cmp.isNaN[string]
theorem cl151 : Callable Try.prog 151 := callable_of Try.func151 (by kernel_rfl) (by kernel_rfl)
-- 152 slices.order2Ordered[int]
theorem cl152 : Callable Try.prog 152 := callable_of Try.func152 (by kernel_rfl) (by kernel_rfl)
-- 153 slices.order2Ordered[string]
theorem cl153 : Callable Try.prog 153 := callable_of Try.func153 (by kernel_rfl) (by kernel_rfl)
-- 154 (runtime.boundsError).Error
-- 155 (runtime.boundsError).RuntimeError
-- 156 (runtime.errorString).Error
-- 157 (runtime.errorString).RuntimeError
-- 158 (runtime.plainError).Error
-- 159 (runtime.plainError).RuntimeError
-- 160 (runtime.errorAddressString).Error
-- 161 (runtime.errorAddressString).RuntimeError
-- 162 (*runtime.TypeAssertionError).Error
-- 163 (*runtime.TypeAssertionError).RuntimeError
-- 164 (*runtime.PanicNilError).Error
-- 165 (*runtime.PanicNilError).RuntimeError
-- 166 (*internal/abi.Type).Align
-- 167 (internal/runtime/maps.unhashableTypeError).Error
-- 168 (internal/runtime/maps.unhashableTypeError).RuntimeError
-- 169 (internal/abi.Kind).String
end Go.Proofs.Ytnamhhmfnokfiaa
