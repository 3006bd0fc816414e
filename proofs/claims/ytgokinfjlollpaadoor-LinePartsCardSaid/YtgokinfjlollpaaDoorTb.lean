import Derived.Test.YtgokinfjlollpaaDoorProg
import Derived.KernelRfl
import Derived.Test.YtgokinfjlollpaaDoorQ4
namespace Go.Proofs.YtgokinfjlollpaaDoor
open Go Go.SL
theorem ti0 : TI Tryd.prog 0 (.tuple #[]) 1 0 := ti_of (by kernel_rfl)
theorem ti1 : TI Tryd.prog 1 (.nilFunc) 1 8 := ti_of (by kernel_rfl)
theorem ti2 : TI Tryd.prog 2 (.int .i64 0) 1 8 := ti_of (by kernel_rfl)
theorem ti3 : TI Tryd.prog 3 (.int .i64 0) 1 8 := ti_of (by kernel_rfl)
theorem ti4 : TI Tryd.prog 4 (.bool false) 1 1 := ti_of (by kernel_rfl)
theorem ti5 : TI Tryd.prog 5 (.int .u8 0) 1 1 := ti_of (by kernel_rfl)
theorem ti6 : TI Tryd.prog 6 (.int .u8 0) 1 1 := ti_of (by kernel_rfl)
theorem ti7 : TI Tryd.prog 7 (.agg #[.int .i64 0, .int .i64 0, .bool false, .int .u8 0]) 4 24 := ti_of (by kernel_rfl)
theorem ti8 : TI Tryd.prog 8 (.agg #[.int .i64 0, .int .i64 0, .bool false, .int .u8 0]) 4 24 := ti_of (by kernel_rfl)
theorem ti9 : TI Tryd.prog 9 (.string ⟨#[]⟩) 1 16 := ti_of (by kernel_rfl)
theorem ti10 : TI Tryd.prog 10 (.string ⟨#[]⟩) 1 16 := ti_of (by kernel_rfl)
theorem ti11 : TI Tryd.prog 11 (.string ⟨#[]⟩) 1 16 := ti_of (by kernel_rfl)
theorem ti12 : TI Tryd.prog 12 (.int .u64 0) 1 8 := ti_of (by kernel_rfl)
theorem ti13 : TI Tryd.prog 13 (.agg #[.string ⟨#[]⟩, .int .u64 0]) 2 24 := ti_of (by kernel_rfl)
theorem ti14 : TI Tryd.prog 14 (.agg #[.string ⟨#[]⟩, .int .u64 0]) 2 24 := ti_of (by kernel_rfl)
theorem ti15 : TI Tryd.prog 15 (.pointer none) 1 8 := ti_of (by kernel_rfl)
theorem ti16 : TI Tryd.prog 16 (.pointer none) 1 8 := ti_of (by kernel_rfl)
theorem ti17 : TI Tryd.prog 17 (.pointer none) 1 8 := ti_of (by kernel_rfl)
theorem ti18 : TI Tryd.prog 18 (.agg #[.pointer none]) 1 8 := ti_of (by kernel_rfl)
theorem ti19 : TI Tryd.prog 19 (.agg #[.pointer none]) 1 8 := ti_of (by kernel_rfl)
theorem ti20 : TI Tryd.prog 20 (.nilIface) 1 16 := ti_of (by kernel_rfl)
theorem ti21 : TI Tryd.prog 21 (.int .i32 0) 1 4 := ti_of (by kernel_rfl)
theorem ti22 : TI Tryd.prog 22 (.slice none 0 0) 1 24 := ti_of (by kernel_rfl)
theorem ti23 : TI Tryd.prog 23 (.nilFunc) 1 8 := ti_of (by kernel_rfl)
theorem ti24 : TI Tryd.prog 24 (.nilFunc) 1 8 := ti_of (by kernel_rfl)
theorem ti25 : TI Tryd.prog 25 (.nilFunc) 1 8 := ti_of (by kernel_rfl)
theorem ti26 : TI Tryd.prog 26 (.nilFunc) 1 8 := ti_of (by kernel_rfl)
theorem ti27 : TI Tryd.prog 27 (.nilFunc) 1 8 := ti_of (by kernel_rfl)
theorem ti28 : TI Tryd.prog 28 (.nilFunc) 1 8 := ti_of (by kernel_rfl)
theorem ti29 : TI Tryd.prog 29 (.nilFunc) 1 8 := ti_of (by kernel_rfl)
theorem ti30 : TI Tryd.prog 30 (.nilFunc) 1 8 := ti_of (by kernel_rfl)
theorem ti31 : TI Tryd.prog 31 (.agg #[.slice none 0 0, .slice none 0 0]) 2 48 := ti_of (by kernel_rfl)
theorem ti32 : TI Tryd.prog 32 (.agg #[.slice none 0 0, .slice none 0 0]) 2 48 := ti_of (by kernel_rfl)
theorem ti33 : TI Tryd.prog 33 (.tuple #[.slice none 0 0, .bool false]) 1 0 := ti_of (by kernel_rfl)
theorem ti34 : TI Tryd.prog 34 (.nilFunc) 1 8 := ti_of (by kernel_rfl)
theorem ti35 : TI Tryd.prog 35 (.nilFunc) 1 8 := ti_of (by kernel_rfl)
theorem ti36 : TI Tryd.prog 36 (.nilFunc) 1 8 := ti_of (by kernel_rfl)
theorem ti37 : TI Tryd.prog 37 (.nilFunc) 1 8 := ti_of (by kernel_rfl)
theorem ti38 : TI Tryd.prog 38 (.nilFunc) 1 8 := ti_of (by kernel_rfl)
theorem ti39 : TI Tryd.prog 39 (.nilFunc) 1 8 := ti_of (by kernel_rfl)
theorem ti40 : TI Tryd.prog 40 (.nilFunc) 1 8 := ti_of (by kernel_rfl)
theorem ti41 : TI Tryd.prog 41 (.nilFunc) 1 8 := ti_of (by kernel_rfl)
theorem ti42 : TI Tryd.prog 42 (.nilFunc) 1 8 := ti_of (by kernel_rfl)
theorem ti43 : TI Tryd.prog 43 (.slice none 0 0) 1 24 := ti_of (by kernel_rfl)
theorem ti44 : TI Tryd.prog 44 (.nilFunc) 1 8 := ti_of (by kernel_rfl)
theorem ti45 : TI Tryd.prog 45 (.nilFunc) 1 8 := ti_of (by kernel_rfl)
theorem ti46 : TI Tryd.prog 46 (.pointer none) 1 8 := ti_of (by kernel_rfl)
theorem ti47 : TI Tryd.prog 47 (.slice none 0 0) 1 24 := ti_of (by kernel_rfl)
theorem ti48 : TI Tryd.prog 48 (.agg #[.pointer none, .slice none 0 0]) 2 32 := ti_of (by kernel_rfl)
theorem ti49 : TI Tryd.prog 49 (.agg #[.pointer none, .slice none 0 0]) 2 32 := ti_of (by kernel_rfl)
theorem ti50 : TI Tryd.prog 50 (.nilIface) 1 16 := ti_of (by kernel_rfl)
theorem ti51 : TI Tryd.prog 51 (.nilIface) 1 16 := ti_of (by kernel_rfl)
theorem ti52 : TI Tryd.prog 52 (.tuple #[.int .i64 0, .nilIface]) 1 0 := ti_of (by kernel_rfl)
theorem ti53 : TI Tryd.prog 53 (.nilFunc) 1 8 := ti_of (by kernel_rfl)
theorem ti54 : TI Tryd.prog 54 (.nilFunc) 1 8 := ti_of (by kernel_rfl)
theorem ti55 : TI Tryd.prog 55 (.nilFunc) 1 8 := ti_of (by kernel_rfl)
theorem ti56 : TI Tryd.prog 56 (.nilFunc) 1 8 := ti_of (by kernel_rfl)
theorem ti57 : TI Tryd.prog 57 (.nilFunc) 1 8 := ti_of (by kernel_rfl)
theorem ti58 : TI Tryd.prog 58 (.nilFunc) 1 8 := ti_of (by kernel_rfl)
theorem ti59 : TI Tryd.prog 59 (.nilFunc) 1 8 := ti_of (by kernel_rfl)
theorem ti60 : TI Tryd.prog 60 (.nilFunc) 1 8 := ti_of (by kernel_rfl)
theorem ti61 : TI Tryd.prog 61 (.pointer none) 1 8 := ti_of (by kernel_rfl)
theorem ti62 : TI Tryd.prog 62 (.nilFunc) 1 8 := ti_of (by kernel_rfl)
theorem ti63 : TI Tryd.prog 63 (.nilFunc) 1 8 := ti_of (by kernel_rfl)
theorem ti64 : TI Tryd.prog 64 (.pointer none) 1 8 := ti_of (by kernel_rfl)
theorem ti65 : TI Tryd.prog 65 (.nilFunc) 1 8 := ti_of (by kernel_rfl)
theorem ti66 : TI Tryd.prog 66 (.nilFunc) 1 8 := ti_of (by kernel_rfl)
theorem ti67 : TI Tryd.prog 67 (.int .u64 0) 1 8 := ti_of (by kernel_rfl)
theorem ti68 : TI Tryd.prog 68 (.tuple #[.int .i32 0, .int .i64 0]) 1 0 := ti_of (by kernel_rfl)
theorem ti69 : TI Tryd.prog 69 (.nilFunc) 1 8 := ti_of (by kernel_rfl)
theorem ti70 : TI Tryd.prog 70 (.int .u32 0) 1 4 := ti_of (by kernel_rfl)
theorem ti71 : TI Tryd.prog 71 (.tuple #[.int .u32 0, .int .u32 0]) 1 0 := ti_of (by kernel_rfl)
theorem ti72 : TI Tryd.prog 72 (.nilFunc) 1 8 := ti_of (by kernel_rfl)
theorem ti74 : TI Tryd.prog 74 (.agg #[.int .u8 0, .int .u8 0]) 2 2 := ti_of (by kernel_rfl)
theorem ti75 : TI Tryd.prog 75 (.agg #[.int .u8 0, .int .u8 0]) 2 2 := ti_of (by kernel_rfl)
theorem ti76 : TI Tryd.prog 76 (.agg #[.int .u8 0, .int .u8 0, .int .u8 0, .int .u8 0, .int .u8 0, .int .u8 0, .int .u8 0, .int .u8 0, .int .u8 0, .int .u8 0, .int .u8 0, .int .u8 0, .int .u8 0, .int .u8 0, .int .u8 0, .int .u8 0, .int .u8 0, .int .u8 0, .int .u8 0, .int .u8 0, .int .u8 0, .int .u8 0, .int .u8 0, .int .u8 0, .int .u8 0, .int .u8 0, .int .u8 0, .int .u8 0, .int .u8 0, .int .u8 0, .int .u8 0, .int .u8 0]) 32 32 := ti_of (by kernel_rfl)
theorem ti77 : TI Tryd.prog 77 (.agg #[.pointer none, .pointer none, .pointer none, .string ⟨#[]⟩]) 4 40 := ti_of (by kernel_rfl)
theorem ti78 : TI Tryd.prog 78 (.agg #[.pointer none, .pointer none, .pointer none, .string ⟨#[]⟩]) 4 40 := ti_of (by kernel_rfl)
theorem ti79 : TI Tryd.prog 79 (.agg #[]) 0 0 := ti_of (by kernel_rfl)
theorem ti80 : TI Tryd.prog 80 (.agg #[]) 0 0 := ti_of (by kernel_rfl)
theorem ti81 : TI Tryd.prog 81 (.agg #[]) 0 0 := ti_of (by kernel_rfl)
theorem ti82 : TI Tryd.prog 82 (.nilFunc) 1 8 := ti_of (by kernel_rfl)
theorem ti83 : TI Tryd.prog 83 (.int .u8 0) 1 1 := ti_of (by kernel_rfl)
theorem ti84 : TI Tryd.prog 84 (.int .u8 0) 1 1 := ti_of (by kernel_rfl)
theorem ti85 : TI Tryd.prog 85 (.nilFunc) 1 8 := ti_of (by kernel_rfl)
theorem ti86 : TI Tryd.prog 86 (.int .i32 0) 1 4 := ti_of (by kernel_rfl)
theorem ti87 : TI Tryd.prog 87 (.int .i32 0) 1 4 := ti_of (by kernel_rfl)
theorem ti88 : TI Tryd.prog 88 (.agg #[.int .u64 0, .int .u64 0, .int .u32 0, .int .u8 0, .int .u8 0, .int .u8 0, .int .u8 0, .nilFunc, .pointer none, .int .i32 0, .int .i32 0]) 11 48 := ti_of (by kernel_rfl)
theorem ti89 : TI Tryd.prog 89 (.agg #[.int .u64 0, .int .u64 0, .int .u32 0, .int .u8 0, .int .u8 0, .int .u8 0, .int .u8 0, .nilFunc, .pointer none, .int .i32 0, .int .i32 0]) 11 48 := ti_of (by kernel_rfl)
theorem lone1 : Lone Tryd.prog 1 := lone_of Tryd.underlying1 rfl
theorem lone2 : Lone Tryd.prog 2 := lone_of Tryd.underlying2 rfl
theorem lone3 : Lone Tryd.prog 3 := lone_of Tryd.underlying3 rfl
theorem lone4 : Lone Tryd.prog 4 := lone_of Tryd.underlying4 rfl
theorem lone5 : Lone Tryd.prog 5 := lone_of Tryd.underlying5 rfl
theorem lone6 : Lone Tryd.prog 6 := lone_of Tryd.underlying6 rfl
theorem lone9 : Lone Tryd.prog 9 := lone_of Tryd.underlying9 rfl
theorem lone10 : Lone Tryd.prog 10 := lone_of Tryd.underlying10 rfl
theorem lone11 : Lone Tryd.prog 11 := lone_of Tryd.underlying11 rfl
theorem lone12 : Lone Tryd.prog 12 := lone_of Tryd.underlying12 rfl
theorem lone15 : Lone Tryd.prog 15 := lone_of Tryd.underlying15 rfl
theorem lone16 : Lone Tryd.prog 16 := lone_of Tryd.underlying16 rfl
theorem lone17 : Lone Tryd.prog 17 := lone_of Tryd.underlying17 rfl
theorem lone20 : Lone Tryd.prog 20 := lone_of Tryd.underlying20 rfl
theorem lone21 : Lone Tryd.prog 21 := lone_of Tryd.underlying21 rfl
theorem lone22 : Lone Tryd.prog 22 := lone_of Tryd.underlying22 rfl
theorem lone23 : Lone Tryd.prog 23 := lone_of Tryd.underlying23 rfl
theorem lone24 : Lone Tryd.prog 24 := lone_of Tryd.underlying24 rfl
theorem lone25 : Lone Tryd.prog 25 := lone_of Tryd.underlying25 rfl
theorem lone26 : Lone Tryd.prog 26 := lone_of Tryd.underlying26 rfl
theorem lone27 : Lone Tryd.prog 27 := lone_of Tryd.underlying27 rfl
theorem lone28 : Lone Tryd.prog 28 := lone_of Tryd.underlying28 rfl
theorem lone29 : Lone Tryd.prog 29 := lone_of Tryd.underlying29 rfl
theorem lone30 : Lone Tryd.prog 30 := lone_of Tryd.underlying30 rfl
theorem lone34 : Lone Tryd.prog 34 := lone_of Tryd.underlying34 rfl
theorem lone35 : Lone Tryd.prog 35 := lone_of Tryd.underlying35 rfl
theorem lone36 : Lone Tryd.prog 36 := lone_of Tryd.underlying36 rfl
theorem lone37 : Lone Tryd.prog 37 := lone_of Tryd.underlying37 rfl
theorem lone38 : Lone Tryd.prog 38 := lone_of Tryd.underlying38 rfl
theorem lone39 : Lone Tryd.prog 39 := lone_of Tryd.underlying39 rfl
theorem lone40 : Lone Tryd.prog 40 := lone_of Tryd.underlying40 rfl
theorem lone41 : Lone Tryd.prog 41 := lone_of Tryd.underlying41 rfl
theorem lone42 : Lone Tryd.prog 42 := lone_of Tryd.underlying42 rfl
theorem lone43 : Lone Tryd.prog 43 := lone_of Tryd.underlying43 rfl
theorem lone44 : Lone Tryd.prog 44 := lone_of Tryd.underlying44 rfl
theorem lone45 : Lone Tryd.prog 45 := lone_of Tryd.underlying45 rfl
theorem lone46 : Lone Tryd.prog 46 := lone_of Tryd.underlying46 rfl
theorem lone47 : Lone Tryd.prog 47 := lone_of Tryd.underlying47 rfl
theorem lone50 : Lone Tryd.prog 50 := lone_of Tryd.underlying50 rfl
theorem lone51 : Lone Tryd.prog 51 := lone_of Tryd.underlying51 rfl
theorem lone53 : Lone Tryd.prog 53 := lone_of Tryd.underlying53 rfl
theorem lone54 : Lone Tryd.prog 54 := lone_of Tryd.underlying54 rfl
theorem lone55 : Lone Tryd.prog 55 := lone_of Tryd.underlying55 rfl
theorem lone56 : Lone Tryd.prog 56 := lone_of Tryd.underlying56 rfl
theorem lone57 : Lone Tryd.prog 57 := lone_of Tryd.underlying57 rfl
theorem lone58 : Lone Tryd.prog 58 := lone_of Tryd.underlying58 rfl
theorem lone59 : Lone Tryd.prog 59 := lone_of Tryd.underlying59 rfl
theorem lone60 : Lone Tryd.prog 60 := lone_of Tryd.underlying60 rfl
theorem lone61 : Lone Tryd.prog 61 := lone_of Tryd.underlying61 rfl
theorem lone62 : Lone Tryd.prog 62 := lone_of Tryd.underlying62 rfl
theorem lone63 : Lone Tryd.prog 63 := lone_of Tryd.underlying63 rfl
theorem lone64 : Lone Tryd.prog 64 := lone_of Tryd.underlying64 rfl
theorem lone65 : Lone Tryd.prog 65 := lone_of Tryd.underlying65 rfl
theorem lone66 : Lone Tryd.prog 66 := lone_of Tryd.underlying66 rfl
theorem lone67 : Lone Tryd.prog 67 := lone_of Tryd.underlying67 rfl
theorem lone69 : Lone Tryd.prog 69 := lone_of Tryd.underlying69 rfl
theorem lone70 : Lone Tryd.prog 70 := lone_of Tryd.underlying70 rfl
theorem lone72 : Lone Tryd.prog 72 := lone_of Tryd.underlying72 rfl
theorem lone82 : Lone Tryd.prog 82 := lone_of Tryd.underlying82 rfl
theorem lone83 : Lone Tryd.prog 83 := lone_of Tryd.underlying83 rfl
theorem lone84 : Lone Tryd.prog 84 := lone_of Tryd.underlying84 rfl
theorem lone85 : Lone Tryd.prog 85 := lone_of Tryd.underlying85 rfl
theorem lone86 : Lone Tryd.prog 86 := lone_of Tryd.underlying86 rfl
theorem lone87 : Lone Tryd.prog 87 := lone_of Tryd.underlying87 rfl
-- 0 main.main
-- 1 gosem.cut
-- 2 gosem.cut.init
-- 3 quiltwork/quiltworklaw01.LineCuts
theorem cl3 : Callable Tryd.prog 3 := callable_of Tryd.func3 (by kernel_rfl) (by kernel_rfl)
-- 4 quiltwork/quiltworklaw01.LineRight
theorem cl4 : Callable Tryd.prog 4 := callable_of Tryd.func4 (by kernel_rfl) (by kernel_rfl)
-- 5 quiltwork/quiltworklaw01.LineSplices
theorem cl5 : Callable Tryd.prog 5 := callable_of Tryd.func5 (by kernel_rfl) (by kernel_rfl)
-- 6 quiltwork/quiltworklaw01.LineAgain
theorem cl6 : Callable Tryd.prog 6 := callable_of Tryd.func6 (by kernel_rfl) (by kernel_rfl)
-- 7 quiltwork/quiltworklaw01.LineFinds
theorem cl7 : Callable Tryd.prog 7 := callable_of Tryd.func7 (by kernel_rfl) (by kernel_rfl)
-- 8 quiltwork/quiltworklaw01.LineEnds
theorem cl8 : Callable Tryd.prog 8 := callable_of Tryd.func8 (by kernel_rfl) (by kernel_rfl)
-- 9 quiltwork/quiltworklaw01.LineBack
theorem cl9 : Callable Tryd.prog 9 := callable_of Tryd.func9 (by kernel_rfl) (by kernel_rfl)
-- 10 quiltwork/quiltworklaw01.LineParts
theorem cl10 : Callable Tryd.prog 10 := callable_of Tryd.func10 (by kernel_rfl) (by kernel_rfl)
-- 11 quiltwork/quiltworklaw01.few
theorem cl11 : Callable Tryd.prog 11 := callable_of Tryd.func11 (by kernel_rfl) (by kernel_rfl)
-- 12 quiltwork/quiltworklaw01.alive
theorem cl12 : Callable Tryd.prog 12 := callable_of Tryd.func12 (by kernel_rfl) (by kernel_rfl)
-- 13 quiltwork/line.Same
theorem cl13 : Callable Tryd.prog 13 := callable_of Tryd.func13 (by kernel_rfl) (by kernel_rfl)
-- 14 quiltwork/line.Cut
theorem cl14 : Callable Tryd.prog 14 := callable_of Tryd.func14 (by kernel_rfl) (by kernel_rfl)
-- 15 quiltwork/quiltworkref01.Cut
theorem cl15 : Callable Tryd.prog 15 := callable_of Tryd.func15 (by kernel_rfl) (by kernel_rfl)
-- 16 quiltwork/line.Text
theorem cl16 : Callable Tryd.prog 16 := callable_of Tryd.func16 (by kernel_rfl) (by kernel_rfl)
-- 17 quiltwork/quiltworkref01.Text
theorem cl17 : Callable Tryd.prog 17 := callable_of Tryd.func17 (by kernel_rfl) (by kernel_rfl)
-- 18 quiltwork/line.Right
theorem cl18 : Callable Tryd.prog 18 := callable_of Tryd.func18 (by kernel_rfl) (by kernel_rfl)
-- 19 quiltwork/quiltworkref01.Right
theorem cl19 : Callable Tryd.prog 19 := callable_of Tryd.func19 (by kernel_rfl) (by kernel_rfl)
-- 20 quiltwork/line.All
theorem cl20 : Callable Tryd.prog 20 := callable_of Tryd.func20 (by kernel_rfl) (by kernel_rfl)
-- 21 quiltwork/quiltworkref01.All
theorem cl21 : Callable Tryd.prog 21 := callable_of Tryd.func21 (by kernel_rfl) (by kernel_rfl)
-- 22 quiltwork/line.Splice
theorem cl22 : Callable Tryd.prog 22 := callable_of Tryd.func22 (by kernel_rfl) (by kernel_rfl)
-- 23 quiltwork/quiltworkref01.Splice
theorem cl23 : Callable Tryd.prog 23 := callable_of Tryd.func23 (by kernel_rfl) (by kernel_rfl)
-- 24 quiltwork/quiltworkref01.Same
theorem cl24 : Callable Tryd.prog 24 := callable_of Tryd.func24 (by kernel_rfl) (by kernel_rfl)
-- 25 quiltwork/line.Find
theorem cl25 : Callable Tryd.prog 25 := callable_of Tryd.func25 (by kernel_rfl) (by kernel_rfl)
-- 26 quiltwork/quiltworkref01.Find
theorem cl26 : Callable Tryd.prog 26 := callable_of Tryd.func26 (by kernel_rfl) (by kernel_rfl)
-- 27 quiltwork/line.Head
theorem cl27 : Callable Tryd.prog 27 := callable_of Tryd.func27 (by kernel_rfl) (by kernel_rfl)
-- 28 quiltwork/quiltworkref01.Head
theorem cl28 : Callable Tryd.prog 28 := callable_of Tryd.func28 (by kernel_rfl) (by kernel_rfl)
-- 29 quiltwork/line.Tail
theorem cl29 : Callable Tryd.prog 29 := callable_of Tryd.func29 (by kernel_rfl) (by kernel_rfl)
-- 30 quiltwork/quiltworkref01.Tail
theorem cl30 : Callable Tryd.prog 30 := callable_of Tryd.func30 (by kernel_rfl) (by kernel_rfl)
-- 31 strings.Contains
theorem cl31 : Callable Tryd.prog 31 := callable_of Tryd.func31 (by kernel_rfl) (by kernel_rfl)
-- 32 strings.HasSuffix
theorem cl32 : Callable Tryd.prog 32 := callable_of Tryd.func32 (by kernel_rfl) (by kernel_rfl)
-- 33 strings.Count
theorem cl33 : Callable Tryd.prog 33 := callable_of Tryd.func33 (by kernel_rfl) (by kernel_rfl)
-- 34 slices.Equal[[]string,string]
theorem cl34 : Callable Tryd.prog 34 := callable_of Tryd.func34 (by kernel_rfl) (by kernel_rfl)
-- 35 strings.Split
theorem cl35 : Callable Tryd.prog 35 := callable_of Tryd.func35 (by kernel_rfl) (by kernel_rfl)
-- 36 strings.TrimSuffix
theorem cl36 : Callable Tryd.prog 36 := callable_of Tryd.func36 (by kernel_rfl) (by kernel_rfl)
-- 37 (*strings.Builder).WriteString
theorem cl37 : Callable Tryd.prog 37 := callable_of Tryd.func37 (by kernel_rfl) (by kernel_rfl)
-- 38 (*strings.Builder).String
theorem cl38 : Callable Tryd.prog 38 := callable_of Tryd.func38 (by kernel_rfl) (by kernel_rfl)
-- 39 slices.ContainsFunc[[]string,string]
theorem cl39 : Callable Tryd.prog 39 := callable_of Tryd.func39 (by kernel_rfl) (by kernel_rfl)
-- 40 quiltwork/line.All$1
theorem cl40 : Callable Tryd.prog 40 := callable_of Tryd.func40 (by kernel_rfl) (by kernel_rfl)
-- 41 quiltwork/line.stands
theorem cl41 : Callable Tryd.prog 41 := callable_of Tryd.func41 (by kernel_rfl) (by kernel_rfl)
-- 42 slices.Clone[[]string,string]
theorem cl42 : Callable Tryd.prog 42 := callable_of Tryd.func42 (by kernel_rfl) (by kernel_rfl)
-- 43 strings.Index
theorem cl43 : Callable Tryd.prog 43 := callable_of Tryd.func43 (by kernel_rfl) (by kernel_rfl)
-- 44 internal/stringslite.HasSuffix
theorem cl44 : Callable Tryd.prog 44 := callable_of Tryd.func44 (by kernel_rfl) (by kernel_rfl)
-- 45 unicode/utf8.RuneCountInString
theorem cl45 : Callable Tryd.prog 45 := callable_of Tryd.func45 (by kernel_rfl) (by kernel_rfl)
-- 46 internal/bytealg.CountString
-- 47 strings.genSplit
theorem cl47 : Callable Tryd.prog 47 := callable_of Tryd.func47 (by kernel_rfl) (by kernel_rfl)
-- 48 internal/stringslite.TrimSuffix
theorem cl48 : Callable Tryd.prog 48 := callable_of Tryd.func48 (by kernel_rfl) (by kernel_rfl)
-- 49 (*strings.Builder).copyCheck
theorem cl49 : Callable Tryd.prog 49 := callable_of Tryd.func49 (by kernel_rfl) (by kernel_rfl)
-- 50 slices.IndexFunc[[]string,string]
theorem cl50 : Callable Tryd.prog 50 := callable_of Tryd.func50 (by kernel_rfl) (by kernel_rfl)
-- 51 internal/stringslite.Index
theorem cl51 : Callable Tryd.prog 51 := callable_of Tryd.func51 (by kernel_rfl) (by kernel_rfl)
-- 52 strings.explode
theorem cl52 : Callable Tryd.prog 52 := callable_of Tryd.func52 (by kernel_rfl) (by kernel_rfl)
-- 53 internal/abi.NoEscape
-- 54 internal/stringslite.IndexByte
theorem cl54 : Callable Tryd.prog 54 := callable_of Tryd.func54 (by kernel_rfl) (by kernel_rfl)
-- 55 internal/bytealg.IndexString
-- 56 internal/bytealg.Cutover
theorem cl56 : Callable Tryd.prog 56 := callable_of Tryd.func56 (by kernel_rfl) (by kernel_rfl)
-- 57 internal/bytealg.IndexRabinKarp[string]
theorem cl57 : Callable Tryd.prog 57 := callable_of Tryd.func57 (by kernel_rfl) (by kernel_rfl)
-- 58 unicode/utf8.DecodeRuneInString
theorem cl58 : Callable Tryd.prog 58 := callable_of Tryd.func58 (by kernel_rfl) (by kernel_rfl)
-- 59 internal/bytealg.IndexByteString
-- 60 internal/bytealg.hashStr[string]
theorem cl60 : Callable Tryd.prog 60 := callable_of Tryd.func60 (by kernel_rfl) (by kernel_rfl)
-- 61 unicode/utf8.decodeRuneInStringSlow
theorem cl61 : Callable Tryd.prog 61 := callable_of Tryd.func61 (by kernel_rfl) (by kernel_rfl)
-- 62 (runtime.boundsError).Error
-- 63 (runtime.boundsError).RuntimeError
-- 64 (runtime.errorString).Error
-- 65 (runtime.errorString).RuntimeError
-- 66 (runtime.plainError).Error
-- 67 (runtime.plainError).RuntimeError
-- 68 (runtime.errorAddressString).Error
-- 69 (runtime.errorAddressString).RuntimeError
-- 70 (*runtime.TypeAssertionError).Error
-- 71 (*runtime.TypeAssertionError).RuntimeError
-- 72 (*runtime.PanicNilError).Error
-- 73 (*runtime.PanicNilError).RuntimeError
-- 74 (*internal/abi.Type).Align
-- 75 (internal/runtime/maps.unhashableTypeError).Error
-- 76 (internal/runtime/maps.unhashableTypeError).RuntimeError
-- 77 (*strings.Builder).Reset
-- 78 (internal/abi.Kind).String
-- 79 var's%20door:%20gosem.cut.vars%20holds%20initialisers%20alone;%20see%20the%20manifest's%20row%20cutvarsword%20(look%2011,%20test%20files%20too)
-- 80 var's%20door:%20the%20look%20of%20gosem.cut.vars%20went%20over%20the%20folder%20that%20the%20caller%20named%20as%20the%20repository's%20root%20(look%2011)
-- 81 var's%20door:%20unicode/utf8.acceptRanges%20is%20laid%20by%20its%20own%20initialiser,%20plain%20data%20(look%2011)
-- 82 var's%20door:%20unicode/utf8.first%20is%20laid%20by%20its%20text%20alone%20(pinned%201)
-- 83 gosem.cut.vars
theorem cl83 : Callable Tryd.prog 83 := callable_of Tryd.func83 (by kernel_rfl) (by kernel_rfl)
end Go.Proofs.YtgokinfjlollpaaDoor
