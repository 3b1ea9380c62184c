/-
  Facts of the program, each by evaluation. No condition.
-/
import Derived.Test.YtamolakhpcofhaaEng
import Derived.Test.YtamolakhpcofhaaMod
import Derived.Test.YtamolakhpcofhaaEng1
import Derived.Test.YtamolakhpcofhaaMod1
import Derived.Test.YtamolakhpcofhaaProg
namespace Go.Proofs.Ytamolakhpcofhaa
open Go Go.Eng
theorem zf0 : Try.prog.underlying 22 = some (.slice 3) := by kernel_rfl
theorem zf1 : sizeB Try.prog 3 = some 1 := by kernel_rfl
theorem zf2 : Try.prog.underlying 69 = some (.slice 5) := by kernel_rfl
theorem zf3 : Try.prog.underlying 5 = some (.int .u8) := by kernel_rfl
theorem zf4 : Try.prog.underlying 9 = some .string := by kernel_rfl
theorem zf5 : placesB Try.prog 57 = some (#[.slice none 0 0, .int .i64 0], [(0, 1), (1, 1)]) := by kernel_rfl
theorem zf6 : Try.prog.follows .mixedOrders = true := by kernel_rfl
theorem zf7 : fieldB Try.prog 57 1 = some 1 := by kernel_rfl
theorem zf8 : scalarB Try.prog 3 = some true := by kernel_rfl
theorem zf9 : fieldB Try.prog 57 0 = some 0 := by kernel_rfl
theorem zf10 : scalarB Try.prog 22 = some true := by kernel_rfl
theorem zf11 : isGo Try.prog 20 = true := by kernel_rfl
theorem zf12 : isGo Try.prog 11 = true := by kernel_rfl
theorem zf13 : Try.prog.underlying 3 = some (.int .i64) := by kernel_rfl
theorem zf14 : (Try.prog.info? 5).map (fun i => (i.zero, i.size, i.bytes)) = some (some (.int .u8 0), 1, 1) := by kernel_rfl
theorem zf15 : isGo Try.prog 77 = true := by kernel_rfl
theorem zf16 : (Try.prog.info? 3).map (fun i => (i.zero, i.size, i.bytes)) = some (some (.int .i64 0), 1, 8) := by kernel_rfl
theorem zf17 : Try.prog.underlying 28 = some (.slice 9) := by kernel_rfl
theorem zf18 : (Try.prog.info? 9).map (fun i => (i.zero, i.size, i.bytes)) = some (some (.string ⟨#[]⟩), 1, 16) := by kernel_rfl
theorem zf19 : (Try.prog.info? 30).map (fun i => (i.zero, i.size, i.bytes)) = some (some (.agg #[.int .i64 0, .int .i64 0, .string ⟨#[]⟩, .slice none 0 0, .slice none 0 0, .slice none 0 0, .slice none 0 0]), 7, 128) := by kernel_rfl
theorem zf20 : isGo Try.prog 37 = true := by kernel_rfl
theorem zf21 : Try.prog.underlying 25 = some (.slice 22) := by kernel_rfl
theorem zf22 : (Try.prog.info? 22).map (fun i => (i.zero, i.size, i.bytes)) = some (some (.slice none 0 0), 1, 24) := by kernel_rfl
theorem zf23 : Try.prog.underlying 26 = some (.slice 28) := by kernel_rfl
theorem zf24 : (Try.prog.info? 28).map (fun i => (i.zero, i.size, i.bytes)) = some (some (.slice none 0 0), 1, 24) := by kernel_rfl
theorem zf25 : Try.prog.underlying 27 = some (.slice 4) := by kernel_rfl
theorem zf26 : (Try.prog.info? 4).map (fun i => (i.zero, i.size, i.bytes)) = some (some (.bool false), 1, 1) := by kernel_rfl
theorem zf27 : placesB Try.prog 30 = some (#[.int .i64 0, .int .i64 0, .string ⟨#[]⟩, .slice none 0 0, .slice none 0 0, .slice none 0 0, .slice none 0 0], [(0, 1), (1, 1), (2, 1), (3, 1), (4, 1), (5, 1), (6, 1)]) := by kernel_rfl
theorem zf28 : sizeB Try.prog 30 = some 7 := by kernel_rfl
theorem zf29 : isAggB Try.prog 30 = some true := by kernel_rfl
theorem zf30 : fieldB Try.prog 30 3 = some 3 := by kernel_rfl
theorem zf31 : scalarB Try.prog 25 = some true := by kernel_rfl
theorem zf32 : sizeB Try.prog 22 = some 1 := by kernel_rfl
theorem zf33 : fieldB Try.prog 30 0 = some 0 := by kernel_rfl
theorem zf34 : fieldB Try.prog 30 4 = some 4 := by kernel_rfl
theorem zf35 : scalarB Try.prog 26 = some true := by kernel_rfl
theorem zf36 : sizeB Try.prog 28 = some 1 := by kernel_rfl
theorem zf37 : scalarB Try.prog 28 = some true := by kernel_rfl
theorem zf38 : sizeB Try.prog 9 = some 1 := by kernel_rfl
theorem zf39 : scalarB Try.prog 9 = some true := by kernel_rfl
theorem zf40 : isGo Try.prog 70 = true := by kernel_rfl
theorem zf41 : fieldB Try.prog 30 6 = some 6 := by kernel_rfl
theorem zf42 : fieldB Try.prog 30 5 = some 5 := by kernel_rfl
theorem zf43 : scalarB Try.prog 27 = some true := by kernel_rfl
theorem zf44 : sizeB Try.prog 4 = some 1 := by kernel_rfl
theorem zf45 : scalarB Try.prog 4 = some true := by kernel_rfl
theorem zf46 : fieldB Try.prog 30 1 = some 1 := by kernel_rfl
theorem zf47 : fieldB Try.prog 30 2 = some 2 := by kernel_rfl
theorem zf48 : isGo Try.prog 71 = true := by kernel_rfl
theorem zf49 : isGo Try.prog 78 = true := by kernel_rfl
theorem zf50 : Try.prog.underlying 120 = some (.slice 122) := by kernel_rfl
theorem zf51 : (Try.prog.info? 122).map (fun i => (i.zero, i.size, i.bytes)) = some (some (.agg #[.int .i64 0, .int .i64 0]), 2, 16) := by kernel_rfl
theorem zf52 : sizeB Try.prog 120 = some 1 := by kernel_rfl
theorem zf53 : Try.prog.underlying 119 = some (.slice 120) := by kernel_rfl
theorem zf54 : (Try.prog.info? 120).map (fun i => (i.zero, i.size, i.bytes)) = some (some (.slice none 0 0), 1, 24) := by kernel_rfl
theorem zf55 : scalarB Try.prog 120 = some true := by kernel_rfl
theorem zf56 : placesB Try.prog 122 = some (#[.int .i64 0, .int .i64 0], [(0, 1), (1, 1)]) := by kernel_rfl
theorem zf57 : sizeB Try.prog 122 = some 2 := by kernel_rfl
theorem zf58 : isAggB Try.prog 122 = some true := by kernel_rfl
theorem zf59 : fieldB Try.prog 122 0 = some 0 := by kernel_rfl
theorem zf60 : fieldB Try.prog 122 1 = some 1 := by kernel_rfl
theorem zf61 : isGo Try.prog 33 = true := by kernel_rfl
theorem zf62 : isGo Try.prog 41 = true := by kernel_rfl
theorem zf63 : sizeB Try.prog 25 = some 1 := by kernel_rfl
theorem zf64 : sizeB Try.prog 26 = some 1 := by kernel_rfl
theorem zf65 : sizeB Try.prog 27 = some 1 := by kernel_rfl
theorem zf66 : Try.prog.underlying 92 = some (.pointer 94) := by kernel_rfl
theorem zf67 : Try.prog.underlying 145 = some .unsafePointer := by kernel_rfl
theorem zf68 : (Try.prog.funcs[93]?.map fun fn => (fn.name == "runtime.NumGoroutine", fn.body.isNone, (Extern.findNext fn).isNone)) = some (false, true, true) := by kernel_rfl
theorem zf69 : sizeB Try.prog 92 = some 1 := by kernel_rfl
theorem zf70 : fieldB Try.prog 94 0 = some 0 := by kernel_rfl
theorem zf71 : scalarB Try.prog 92 = some true := by kernel_rfl
theorem zf72 : isGo Try.prog 80 = true := by kernel_rfl
theorem zf73 : fieldB Try.prog 94 1 = some 1 := by kernel_rfl
theorem zf74 : scalarB Try.prog 69 = some true := by kernel_rfl
theorem zf75 : sizeB Try.prog 69 = some 1 := by kernel_rfl
theorem zf76 : Try.prog.underlying 128 = some (.pointer 5) := by kernel_rfl
theorem zf77 : isGo Try.prog 31 = true := by kernel_rfl
theorem zf78 : isGo Try.prog 50 = true := by kernel_rfl
theorem zf79 : (Try.prog.info? 94).map (fun i => (i.zero, i.size, i.bytes)) = some (some (.agg #[.pointer none, .slice none 0 0]), 2, 32) := by kernel_rfl
theorem zf80 : isGo Try.prog 51 = true := by kernel_rfl
theorem zf81 : isGo Try.prog 52 = true := by kernel_rfl
theorem zf82 : isGo Try.prog 104 = true := by kernel_rfl
theorem zf83 : sizeB Try.prog 5 = some 1 := by kernel_rfl
theorem zf84 : isGo Try.prog 92 = true := by kernel_rfl
theorem zf85 : isGo Try.prog 73 = true := by kernel_rfl
theorem zf86 : isGo Try.prog 45 = true := by kernel_rfl
theorem zf87 : isGo Try.prog 56 = true := by kernel_rfl
theorem zf88 : isGo Try.prog 47 = true := by kernel_rfl
theorem zf89 : isGo Try.prog 91 = true := by kernel_rfl
theorem zf90 : isGo Try.prog 72 = true := by kernel_rfl
theorem zf91 : isGo Try.prog 32 = true := by kernel_rfl
theorem zf92 : isGo Try.prog 34 = true := by kernel_rfl
theorem zf93 : isGo Try.prog 35 = true := by kernel_rfl
theorem zf94 : isGo Try.prog 79 = true := by kernel_rfl
theorem zf95 : isGo Try.prog 48 = true := by kernel_rfl
theorem zf96 : isGo Try.prog 49 = true := by kernel_rfl
theorem zf97 : isGo Try.prog 81 = true := by kernel_rfl
theorem zf98 : isGo Try.prog 53 = true := by kernel_rfl
theorem zf99 : Try.prog.underlying 100 = some (.map 9 3) := by kernel_rfl
theorem zf100 : Try.prog.underlying 102 = some (.map 3 3) := by kernel_rfl
theorem zf101 : fieldB Try.prog 130 0 = some 0 := by kernel_rfl
theorem zf102 : fieldB Try.prog 130 1 = some 7 := by kernel_rfl
theorem zf103 : isGo Try.prog 105 = true := by kernel_rfl
theorem zf104 : Try.prog.underlying 154 = some (.map 3 9) := by kernel_rfl
theorem zf105 : isGo Try.prog 106 = true := by kernel_rfl
theorem zf106 : isGo Try.prog 82 = true := by kernel_rfl
theorem zf107 : fieldB Try.prog 135 2 = some 2 := by kernel_rfl
theorem zf108 : scalarB Try.prog 5 = some true := by kernel_rfl
theorem zf109 : isGo Try.prog 94 = true := by kernel_rfl
theorem zf110 : fieldB Try.prog 82 0 = some 0 := by kernel_rfl
theorem zf111 : isGo Try.prog 95 = true := by kernel_rfl
theorem zf112 : fieldB Try.prog 82 1 = some 1 := by kernel_rfl
theorem zf113 : placesB Try.prog 130 = some (#[.int .i64 0, .int .i64 0, .string ⟨#[]⟩, .slice none 0 0, .slice none 0 0, .slice none 0 0, .slice none 0 0, .slice none 0 0, .slice none 0 0], [(0, 7), (7, 1), (8, 1)]) := by kernel_rfl
theorem zf114 : fieldB Try.prog 135 0 = some 0 := by kernel_rfl
theorem zf115 : scalarB Try.prog 104 = some true := by kernel_rfl
theorem zf116 : isGo Try.prog 96 = true := by kernel_rfl
theorem zf117 : fieldB Try.prog 135 3 = some 3 := by kernel_rfl
theorem zf118 : scalarB Try.prog 76 = some true := by kernel_rfl
theorem zf119 : isAggB Try.prog 82 = some true := by kernel_rfl
theorem zf120 : sizeB Try.prog 82 = some 2 := by kernel_rfl
theorem zf121 : Try.prog.underlying 76 = some (.slice 82) := by kernel_rfl
theorem zf122 : (Try.prog.info? 82).map (fun i => (i.zero, i.size, i.bytes)) = some (some (.agg #[.int .i64 0, .int .i64 0]), 2, 16) := by kernel_rfl
theorem zf123 : sizeB Try.prog 76 = some 1 := by kernel_rfl
theorem zf124 : fieldB Try.prog 135 4 = some 4 := by kernel_rfl
theorem zf125 : fieldB Try.prog 135 5 = some 5 := by kernel_rfl
theorem zf126 : isGo Try.prog 97 = true := by kernel_rfl
theorem zf127 : fieldB Try.prog 135 1 = some 1 := by kernel_rfl
theorem zf128 : Try.prog.underlying 4 = some .bool := by kernel_rfl
theorem zf129 : placesB Try.prog 82 = some (#[.int .i64 0, .int .i64 0], [(0, 1), (1, 1)]) := by kernel_rfl
theorem zf130 : isGo Try.prog 83 = true := by kernel_rfl
theorem zf131 : isGo Try.prog 84 = true := by kernel_rfl
theorem zf132 : fieldB Try.prog 130 2 = some 8 := by kernel_rfl
theorem zf133 : placesB Try.prog 135 = some (#[.pointer none, .pointer none, .slice none 0 0, .slice none 0 0, .slice none 0 0, .slice none 0 0], [(0, 1), (1, 1), (2, 1), (3, 1), (4, 1), (5, 1)]) := by kernel_rfl
theorem zf134 : isGo Try.prog 85 = true := by kernel_rfl
theorem zf135 : isGo Try.prog 86 = true := by kernel_rfl
theorem zf136 : isGo Try.prog 12 = true := by kernel_rfl
theorem zf137 : isGo Try.prog 55 = true := by kernel_rfl
theorem zf138 : isGo Try.prog 54 = true := by kernel_rfl
theorem zf139 : isGo Try.prog 38 = true := by kernel_rfl
theorem zf140 : isGo Try.prog 16 = true := by kernel_rfl
theorem zf141 : isGo Try.prog 19 = true := by kernel_rfl
theorem zf142 : isGo Try.prog 9 = true := by kernel_rfl
theorem zf143 : isGo Try.prog 10 = true := by kernel_rfl
theorem zf144 : isGo Try.prog 21 = true := by kernel_rfl
theorem zf145 : isGo Try.prog 22 = true := by kernel_rfl
theorem zf146 : isGo Try.prog 14 = true := by kernel_rfl
theorem zf147 : isGo Try.prog 23 = true := by kernel_rfl
theorem zf148 : isGo Try.prog 15 = true := by kernel_rfl
end Go.Proofs.Ytamolakhpcofhaa
