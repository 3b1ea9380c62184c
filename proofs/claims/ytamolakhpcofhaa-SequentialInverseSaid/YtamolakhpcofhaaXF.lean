/-
  Facts of the program, each by evaluation. No condition.
-/
import Derived.Test.YtamolakhpcofhaaEng
import Derived.Test.YtamolakhpcofhaaMod
import Derived.Test.YtamolakhpcofhaaModb
import Derived.Test.YtamolakhpcofhaaEng1
import Derived.Test.YtamolakhpcofhaaMod1
import Derived.Test.YtamolakhpcofhaaProg
namespace Go.Proofs.Ytamolakhpcofhaa
open Go Go.Eng
theorem zf0 : Try.prog.underlying 22 = some (.slice 3) := by kernel_rfl
theorem zf1 : sizeB Try.prog 3 = some 1 := by kernel_rfl
theorem zf2 : Try.prog.underlying 69 = some (.slice 5) := by kernel_rfl
theorem zf3 : Try.prog.underlying 5 = some (.int .u8) := by kernel_rfl
theorem zf4 : Try.prog.underlying 9 = some .string := by kernel_rfl
theorem zf5 : placesB Try.prog 57 = some (#[.slice none 0 0, .int .i64 0], [(0, 1), (1, 1)]) := by kernel_rfl
theorem zf6 : Try.prog.follows .mixedOrders = true := by kernel_rfl
theorem zf7 : fieldB Try.prog 57 1 = some 1 := by kernel_rfl
theorem zf8 : scalarB Try.prog 3 = some true := by kernel_rfl
theorem zf9 : fieldB Try.prog 57 0 = some 0 := by kernel_rfl
theorem zf10 : scalarB Try.prog 22 = some true := by kernel_rfl
theorem zf11 : isGo Try.prog 20 = true := by kernel_rfl
theorem zf12 : isGo Try.prog 11 = true := by kernel_rfl
theorem zf13 : Try.prog.underlying 3 = some (.int .i64) := by kernel_rfl
theorem zf14 : (Try.prog.info? 5).map (fun i => (i.zero, i.size, i.bytes)) = some (some (.int .u8 0), 1, 1) := by kernel_rfl
theorem zf15 : fieldB Try.prog 49 0 = some 0 := by kernel_rfl
theorem zf16 : fieldB Try.prog 49 2 = some 2 := by kernel_rfl
theorem zf17 : scalarB Try.prog 27 = some true := by kernel_rfl
theorem zf18 : Try.prog.underlying 27 = some (.slice 4) := by kernel_rfl
theorem zf19 : fieldB Try.prog 49 3 = some 3 := by kernel_rfl
theorem zf20 : scalarB Try.prog 25 = some true := by kernel_rfl
theorem zf21 : Try.prog.underlying 25 = some (.slice 22) := by kernel_rfl
theorem zf22 : fieldB Try.prog 49 1 = some 1 := by kernel_rfl
theorem zf23 : sizeB Try.prog 22 = some 1 := by kernel_rfl
theorem zf24 : isAggB Try.prog 49 = some true := by kernel_rfl
theorem zf25 : sizeB Try.prog 49 = some 4 := by kernel_rfl
theorem zf26 : isGo Try.prog 57 = true := by kernel_rfl
theorem zf27 : isGo Try.prog 50 = true := by kernel_rfl
theorem zf28 : isGo Try.prog 67 = true := by kernel_rfl
theorem zf29 : sizeB Try.prog 4 = some 1 := by kernel_rfl
theorem zf30 : scalarB Try.prog 4 = some true := by kernel_rfl
theorem zf31 : Try.prog.underlying 102 = some (.map 3 3) := by kernel_rfl
theorem zf32 : (Try.prog.info? 3).map (fun i => (i.zero, i.size, i.bytes)) = some (some (.int .i64 0), 1, 8) := by kernel_rfl
theorem zf33 : fieldB Try.prog 162 1 = some 1 := by kernel_rfl
theorem zf34 : scalarB Try.prog 102 = some true := by kernel_rfl
theorem zf35 : sizeB Try.prog 102 = some 1 := by kernel_rfl
theorem zf36 : fieldB Try.prog 162 0 = some 0 := by kernel_rfl
theorem zf37 : (Try.prog.info? 49).map (fun i => (i.zero, i.size, i.bytes)) = some (some (.agg #[.int .i64 0, .int .i64 0, .slice none 0 0, .slice none 0 0]), 4, 64) := by kernel_rfl
theorem zf38 : (Try.prog.info? 162).map (fun i => (i.zero, i.size, i.bytes)) = some (some (.agg #[.slice none 0 0, .map none]), 2, 32) := by kernel_rfl
theorem zf39 : isGo Try.prog 110 = true := by kernel_rfl
theorem zf40 : placesB Try.prog 49 = some (#[.int .i64 0, .int .i64 0, .slice none 0 0, .slice none 0 0], [(0, 1), (1, 1), (2, 1), (3, 1)]) := by kernel_rfl
theorem zf41 : (Try.prog.info? 22).map (fun i => (i.zero, i.size, i.bytes)) = some (some (.slice none 0 0), 1, 24) := by kernel_rfl
theorem zf42 : sizeB Try.prog 25 = some 1 := by kernel_rfl
theorem zf43 : (Try.prog.info? 4).map (fun i => (i.zero, i.size, i.bytes)) = some (some (.bool false), 1, 1) := by kernel_rfl
theorem zf44 : sizeB Try.prog 27 = some 1 := by kernel_rfl
theorem zf45 : isGo Try.prog 108 = true := by kernel_rfl
theorem zf46 : isGo Try.prog 109 = true := by kernel_rfl
theorem zf47 : isGo Try.prog 107 = true := by kernel_rfl
theorem zf48 : Try.prog.underlying 160 = some (.array 7 3) := by kernel_rfl
theorem zf49 : Try.prog.underlying 4 = some .bool := by kernel_rfl
theorem zf50 : (Try.prog.info? 160).map (fun i => (i.zero, i.size, i.bytes)) = some (some (.agg #[.int .i64 0, .int .i64 0, .int .i64 0, .int .i64 0, .int .i64 0, .int .i64 0, .int .i64 0]), 7, 56) := by kernel_rfl
theorem zf51 : sizeB Try.prog 160 = some 7 := by kernel_rfl
theorem zf52 : isAggB Try.prog 160 = some true := by kernel_rfl
theorem zf53 : Try.prog.underlying 158 = some (.map 160 3) := by kernel_rfl
theorem zf54 : isGo Try.prog 98 = true := by kernel_rfl
theorem zf55 : isGo Try.prog 99 = true := by kernel_rfl
theorem zf56 : isGo Try.prog 87 = true := by kernel_rfl
theorem zf57 : fieldB Try.prog 141 2 = some 2 := by kernel_rfl
theorem zf58 : isGo Try.prog 75 = true := by kernel_rfl
theorem zf59 : fieldB Try.prog 141 0 = some 0 := by kernel_rfl
theorem zf60 : fieldB Try.prog 141 1 = some 1 := by kernel_rfl
theorem zf61 : isGo Try.prog 88 = true := by kernel_rfl
theorem zf62 : isGo Try.prog 58 = true := by kernel_rfl
theorem zf63 : fieldB Try.prog 30 3 = some 3 := by kernel_rfl
theorem zf64 : fieldB Try.prog 30 0 = some 0 := by kernel_rfl
theorem zf65 : fieldB Try.prog 30 4 = some 4 := by kernel_rfl
theorem zf66 : scalarB Try.prog 26 = some true := by kernel_rfl
theorem zf67 : Try.prog.underlying 26 = some (.slice 28) := by kernel_rfl
theorem zf68 : sizeB Try.prog 28 = some 1 := by kernel_rfl
theorem zf69 : scalarB Try.prog 28 = some true := by kernel_rfl
theorem zf70 : Try.prog.underlying 28 = some (.slice 9) := by kernel_rfl
theorem zf71 : sizeB Try.prog 9 = some 1 := by kernel_rfl
theorem zf72 : scalarB Try.prog 9 = some true := by kernel_rfl
theorem zf73 : isGo Try.prog 70 = true := by kernel_rfl
theorem zf74 : fieldB Try.prog 30 6 = some 6 := by kernel_rfl
theorem zf75 : fieldB Try.prog 30 5 = some 5 := by kernel_rfl
theorem zf76 : fieldB Try.prog 30 1 = some 1 := by kernel_rfl
theorem zf77 : fieldB Try.prog 30 2 = some 2 := by kernel_rfl
theorem zf78 : isAggB Try.prog 30 = some true := by kernel_rfl
theorem zf79 : sizeB Try.prog 30 = some 7 := by kernel_rfl
theorem zf80 : isGo Try.prog 71 = true := by kernel_rfl
theorem zf81 : isGo Try.prog 77 = true := by kernel_rfl
theorem zf82 : isGo Try.prog 78 = true := by kernel_rfl
theorem zf83 : (Try.prog.info? 9).map (fun i => (i.zero, i.size, i.bytes)) = some (some (.string ⟨#[]⟩), 1, 16) := by kernel_rfl
theorem zf84 : (Try.prog.info? 30).map (fun i => (i.zero, i.size, i.bytes)) = some (some (.agg #[.int .i64 0, .int .i64 0, .string ⟨#[]⟩, .slice none 0 0, .slice none 0 0, .slice none 0 0, .slice none 0 0]), 7, 128) := by kernel_rfl
theorem zf85 : isGo Try.prog 37 = true := by kernel_rfl
theorem zf86 : (Try.prog.info? 28).map (fun i => (i.zero, i.size, i.bytes)) = some (some (.slice none 0 0), 1, 24) := by kernel_rfl
theorem zf87 : placesB Try.prog 30 = some (#[.int .i64 0, .int .i64 0, .string ⟨#[]⟩, .slice none 0 0, .slice none 0 0, .slice none 0 0, .slice none 0 0], [(0, 1), (1, 1), (2, 1), (3, 1), (4, 1), (5, 1), (6, 1)]) := by kernel_rfl
theorem zf88 : Try.prog.underlying 120 = some (.slice 122) := by kernel_rfl
theorem zf89 : (Try.prog.info? 122).map (fun i => (i.zero, i.size, i.bytes)) = some (some (.agg #[.int .i64 0, .int .i64 0]), 2, 16) := by kernel_rfl
theorem zf90 : sizeB Try.prog 120 = some 1 := by kernel_rfl
theorem zf91 : Try.prog.underlying 119 = some (.slice 120) := by kernel_rfl
theorem zf92 : (Try.prog.info? 120).map (fun i => (i.zero, i.size, i.bytes)) = some (some (.slice none 0 0), 1, 24) := by kernel_rfl
theorem zf93 : scalarB Try.prog 120 = some true := by kernel_rfl
theorem zf94 : placesB Try.prog 122 = some (#[.int .i64 0, .int .i64 0], [(0, 1), (1, 1)]) := by kernel_rfl
theorem zf95 : sizeB Try.prog 122 = some 2 := by kernel_rfl
theorem zf96 : isAggB Try.prog 122 = some true := by kernel_rfl
theorem zf97 : fieldB Try.prog 122 0 = some 0 := by kernel_rfl
theorem zf98 : fieldB Try.prog 122 1 = some 1 := by kernel_rfl
theorem zf99 : isGo Try.prog 33 = true := by kernel_rfl
theorem zf100 : isGo Try.prog 41 = true := by kernel_rfl
theorem zf101 : sizeB Try.prog 26 = some 1 := by kernel_rfl
theorem zf102 : placesB Try.prog 141 = some (#[.int .i64 0, .slice none 0 0, .slice none 0 0], [(0, 1), (1, 1), (2, 1)]) := by kernel_rfl
theorem zf103 : Try.prog.underlying 92 = some (.pointer 94) := by kernel_rfl
theorem zf104 : Try.prog.underlying 145 = some .unsafePointer := by kernel_rfl
theorem zf105 : (Try.prog.funcs[93]?.map fun fn => (fn.name == "runtime.NumGoroutine", fn.body.isNone, (Extern.findNext fn).isNone)) = some (false, true, true) := by kernel_rfl
theorem zf106 : sizeB Try.prog 92 = some 1 := by kernel_rfl
theorem zf107 : fieldB Try.prog 94 0 = some 0 := by kernel_rfl
theorem zf108 : scalarB Try.prog 92 = some true := by kernel_rfl
theorem zf109 : isGo Try.prog 80 = true := by kernel_rfl
theorem zf110 : fieldB Try.prog 94 1 = some 1 := by kernel_rfl
theorem zf111 : scalarB Try.prog 69 = some true := by kernel_rfl
theorem zf112 : sizeB Try.prog 69 = some 1 := by kernel_rfl
theorem zf113 : Try.prog.underlying 128 = some (.pointer 5) := by kernel_rfl
theorem zf114 : isGo Try.prog 31 = true := by kernel_rfl
theorem zf115 : (Try.prog.info? 94).map (fun i => (i.zero, i.size, i.bytes)) = some (some (.agg #[.pointer none, .slice none 0 0]), 2, 32) := by kernel_rfl
theorem zf116 : isGo Try.prog 51 = true := by kernel_rfl
theorem zf117 : isGo Try.prog 52 = true := by kernel_rfl
theorem zf118 : isGo Try.prog 76 = true := by kernel_rfl
theorem zf119 : isGo Try.prog 59 = true := by kernel_rfl
theorem zf120 : scalarB Try.prog 108 = some true := by kernel_rfl
theorem zf121 : isGo Try.prog 60 = true := by kernel_rfl
theorem zf122 : isGo Try.prog 61 = true := by kernel_rfl
theorem zf123 : isGo Try.prog 39 = true := by kernel_rfl
theorem zf124 : isGo Try.prog 32 = true := by kernel_rfl
theorem zf125 : (Try.prog.info? 108).map (fun i => (i.zero, i.size, i.bytes)) = some (some (.nilFunc), 1, 8) := by kernel_rfl
theorem zf126 : sizeB Try.prog 108 = some 1 := by kernel_rfl
theorem zf127 : isGo Try.prog 62 = true := by kernel_rfl
theorem zf128 : isGo Try.prog 63 = true := by kernel_rfl
theorem zf129 : isGo Try.prog 100 = true := by kernel_rfl
theorem zf130 : isGo Try.prog 101 = true := by kernel_rfl
theorem zf131 : isGo Try.prog 102 = true := by kernel_rfl
theorem zf132 : isGo Try.prog 103 = true := by kernel_rfl
theorem zf133 : isGo Try.prog 89 = true := by kernel_rfl
theorem zf134 : isGo Try.prog 90 = true := by kernel_rfl
theorem zf135 : isAggB Try.prog 115 = some true := by kernel_rfl
theorem zf136 : sizeB Try.prog 115 = some 2 := by kernel_rfl
theorem zf137 : Try.prog.underlying 116 = some (.slice 115) := by kernel_rfl
theorem zf138 : (Try.prog.info? 115).map (fun i => (i.zero, i.size, i.bytes)) = some (some (.agg #[.int .i64 0, .int .i64 0]), 2, 16) := by kernel_rfl
theorem zf139 : isGo Try.prog 45 = true := by kernel_rfl
theorem zf140 : isGo Try.prog 64 = true := by kernel_rfl
theorem zf141 : isGo Try.prog 46 = true := by kernel_rfl
theorem zf142 : isGo Try.prog 65 = true := by kernel_rfl
theorem zf143 : placesB Try.prog 115 = some (#[.int .i64 0, .int .i64 0], [(0, 1), (1, 1)]) := by kernel_rfl
theorem zf144 : Try.prog.underlying 117 = some (.map 115 3) := by kernel_rfl
theorem zf145 : fieldB Try.prog 115 0 = some 0 := by kernel_rfl
theorem zf146 : fieldB Try.prog 115 1 = some 1 := by kernel_rfl
theorem zf147 : isGo Try.prog 66 = true := by kernel_rfl
theorem zf148 : isGo Try.prog 16 = true := by kernel_rfl
theorem zf149 : isGo Try.prog 104 = true := by kernel_rfl
theorem zf150 : sizeB Try.prog 5 = some 1 := by kernel_rfl
theorem zf151 : isGo Try.prog 92 = true := by kernel_rfl
theorem zf152 : isGo Try.prog 73 = true := by kernel_rfl
theorem zf153 : isGo Try.prog 91 = true := by kernel_rfl
theorem zf154 : isGo Try.prog 72 = true := by kernel_rfl
theorem zf155 : isGo Try.prog 34 = true := by kernel_rfl
theorem zf156 : isGo Try.prog 35 = true := by kernel_rfl
theorem zf157 : isGo Try.prog 12 = true := by kernel_rfl
theorem zf158 : isGo Try.prog 19 = true := by kernel_rfl
theorem zf159 : isGo Try.prog 9 = true := by kernel_rfl
theorem zf160 : isGo Try.prog 10 = true := by kernel_rfl
theorem zf161 : isGo Try.prog 24 = true := by kernel_rfl
theorem zf162 : isGo Try.prog 25 = true := by kernel_rfl
theorem zf163 : isGo Try.prog 26 = true := by kernel_rfl
theorem zf164 : isGo Try.prog 27 = true := by kernel_rfl
theorem zf165 : isGo Try.prog 28 = true := by kernel_rfl
theorem zf166 : isGo Try.prog 15 = true := by kernel_rfl
end Go.Proofs.Ytamolakhpcofhaa
