import Derived.Test.YtdjpocnijfhcgaaSlkP
import Derived.Test.YtdjpocnijfhcgaaChecked
set_option linter.unusedVariables false
namespace Go.Proofs.Ytdjpocnijfhcgaa
open Slk
-- 2 int64
instance : TyU Try.prog 2 (.int .i64) := ⟨by kernel_rfl⟩
instance : TyInt Try.prog 2 .i64 := ⟨by kernel_rfl⟩
instance : TyOne Try.prog 2 := ⟨by kernel_rfl⟩
instance : TyI Try.prog 2 1 8 ([.int .i64 0]) := ⟨by kernel_rfl, by kernel_rfl⟩
-- 3 int
instance : TyU Try.prog 3 (.int .i64) := ⟨by kernel_rfl⟩
instance : TyInt Try.prog 3 .i64 := ⟨by kernel_rfl⟩
instance : TyOne Try.prog 3 := ⟨by kernel_rfl⟩
instance : TyI Try.prog 3 1 8 ([.int .i64 0]) := ⟨by kernel_rfl, by kernel_rfl⟩
-- 4 bool
instance : TyU Try.prog 4 (.bool) := ⟨by kernel_rfl⟩
instance : TyBool Try.prog 4 := ⟨by kernel_rfl⟩
instance : TyOne Try.prog 4 := ⟨by kernel_rfl⟩
instance : TyI Try.prog 4 1 1 ([.bool false]) := ⟨by kernel_rfl, by kernel_rfl⟩
-- 5 uint8
instance : TyU Try.prog 5 (.int .u8) := ⟨by kernel_rfl⟩
instance : TyInt Try.prog 5 .u8 := ⟨by kernel_rfl⟩
instance : TyOne Try.prog 5 := ⟨by kernel_rfl⟩
instance : TyI Try.prog 5 1 1 ([.int .u8 0]) := ⟨by kernel_rfl, by kernel_rfl⟩
-- 9 string
instance : TyU Try.prog 9 (.string) := ⟨by kernel_rfl⟩
instance : TyStr Try.prog 9 := ⟨by kernel_rfl⟩
instance : TyOne Try.prog 9 := ⟨by kernel_rfl⟩
instance : TyI Try.prog 9 1 16 ([.string ⟨#[]⟩]) := ⟨by kernel_rfl, by kernel_rfl⟩
-- 21 int32
instance : TyU Try.prog 21 (.int .i32) := ⟨by kernel_rfl⟩
instance : TyInt Try.prog 21 .i32 := ⟨by kernel_rfl⟩
instance : TyOne Try.prog 21 := ⟨by kernel_rfl⟩
instance : TyI Try.prog 21 1 4 ([.int .i32 0]) := ⟨by kernel_rfl, by kernel_rfl⟩
-- 22 [][]uint8
instance : TyU Try.prog 22 (.slice 26) := ⟨by kernel_rfl⟩
instance : TySlice Try.prog 22 26 := ⟨by kernel_rfl⟩
instance : TyOne Try.prog 22 := ⟨by kernel_rfl⟩
instance : TyI Try.prog 22 1 24 ([.slice none 0 0]) := ⟨by kernel_rfl, by kernel_rfl⟩
-- 23 uint32
instance : TyU Try.prog 23 (.int .u32) := ⟨by kernel_rfl⟩
instance : TyInt Try.prog 23 .u32 := ⟨by kernel_rfl⟩
instance : TyOne Try.prog 23 := ⟨by kernel_rfl⟩
instance : TyI Try.prog 23 1 4 ([.int .u32 0]) := ⟨by kernel_rfl, by kernel_rfl⟩
-- 26 []uint8
instance : TyU Try.prog 26 (.slice 5) := ⟨by kernel_rfl⟩
instance : TySlice Try.prog 26 5 := ⟨by kernel_rfl⟩
instance : TyOne Try.prog 26 := ⟨by kernel_rfl⟩
instance : TyI Try.prog 26 1 24 ([.slice none 0 0]) := ⟨by kernel_rfl, by kernel_rfl⟩
-- 34 [2]int
instance : TyU Try.prog 34 (.array 2 3) := ⟨by kernel_rfl⟩
instance : TyArr Try.prog 34 2 3 := ⟨by kernel_rfl⟩
instance : TyAgg Try.prog 34 := ⟨by kernel_rfl⟩
instance : TyI Try.prog 34 2 16 ([.int .i64 0, .int .i64 0]) := ⟨by kernel_rfl, by kernel_rfl⟩
instance : TyFlat Try.prog 34 ([.i .i64, .i .i64]) := ⟨by kernel_rfl, by kernel_rfl, by kernel_rfl, by kernel_rfl⟩
-- 37 *wire.Wire
instance : TyU Try.prog 37 (.pointer 40) := ⟨by kernel_rfl⟩
instance : TyPtr Try.prog 37 40 := ⟨by kernel_rfl⟩
instance : TyOne Try.prog 37 := ⟨by kernel_rfl⟩
instance : TyI Try.prog 37 1 8 ([.pointer none]) := ⟨by kernel_rfl, by kernel_rfl⟩
-- 38 [2][][]uint8
instance : TyU Try.prog 38 (.array 2 22) := ⟨by kernel_rfl⟩
instance : TyArr Try.prog 38 2 22 := ⟨by kernel_rfl⟩
instance : TyAgg Try.prog 38 := ⟨by kernel_rfl⟩
instance : TyI Try.prog 38 2 48 ([.slice none 0 0, .slice none 0 0]) := ⟨by kernel_rfl, by kernel_rfl⟩
-- 39 struct { ways [2][][]uint8 }
instance : TyAgg Try.prog 39 := ⟨by kernel_rfl⟩
instance : TyI Try.prog 39 2 48 ([.slice none 0 0, .slice none 0 0]) := ⟨by kernel_rfl, by kernel_rfl⟩
instance : TyF Try.prog 39 0 0 38 2 := ⟨by kernel_rfl⟩
instance : TyS Try.prog 39 [(0, 2)] := ⟨by kernel_rfl⟩
-- 40 wire.Wire
instance : TyAgg Try.prog 40 := ⟨by kernel_rfl⟩
instance : TyI Try.prog 40 2 48 ([.slice none 0 0, .slice none 0 0]) := ⟨by kernel_rfl, by kernel_rfl⟩
instance : TyF Try.prog 40 0 0 38 2 := ⟨by kernel_rfl⟩
instance : TyS Try.prog 40 [(0, 2)] := ⟨by kernel_rfl⟩
-- 48 struct { Kind int; Way int; L [][]uint8 }
instance : TyAgg Try.prog 48 := ⟨by kernel_rfl⟩
instance : TyI Try.prog 48 3 40 ([.int .i64 0, .int .i64 0, .slice none 0 0]) := ⟨by kernel_rfl, by kernel_rfl⟩
instance : TyF Try.prog 48 0 0 3 1 := ⟨by kernel_rfl⟩
instance : TyF Try.prog 48 1 1 3 1 := ⟨by kernel_rfl⟩
instance : TyF Try.prog 48 2 2 22 1 := ⟨by kernel_rfl⟩
instance : TyS Try.prog 48 [(0, 1), (1, 1), (2, 1)] := ⟨by kernel_rfl⟩
-- 49 weirgatelaw26.Step
instance : TyAgg Try.prog 49 := ⟨by kernel_rfl⟩
instance : TyI Try.prog 49 3 40 ([.int .i64 0, .int .i64 0, .slice none 0 0]) := ⟨by kernel_rfl, by kernel_rfl⟩
instance : TyF Try.prog 49 0 0 3 1 := ⟨by kernel_rfl⟩
instance : TyF Try.prog 49 1 1 3 1 := ⟨by kernel_rfl⟩
instance : TyF Try.prog 49 2 2 22 1 := ⟨by kernel_rfl⟩
instance : TyS Try.prog 49 [(0, 1), (1, 1), (2, 1)] := ⟨by kernel_rfl⟩
-- 50 []weirgatelaw26.Step
instance : TyU Try.prog 50 (.slice 49) := ⟨by kernel_rfl⟩
instance : TySlice Try.prog 50 49 := ⟨by kernel_rfl⟩
instance : TyOne Try.prog 50 := ⟨by kernel_rfl⟩
instance : TyI Try.prog 50 1 24 ([.slice none 0 0]) := ⟨by kernel_rfl, by kernel_rfl⟩
-- 53 *weirgateref26.Wire
instance : TyU Try.prog 53 (.pointer 55) := ⟨by kernel_rfl⟩
instance : TyPtr Try.prog 53 55 := ⟨by kernel_rfl⟩
instance : TyOne Try.prog 53 := ⟨by kernel_rfl⟩
instance : TyI Try.prog 53 1 8 ([.pointer none]) := ⟨by kernel_rfl, by kernel_rfl⟩
-- 54 struct { L [2][][]uint8 }
instance : TyAgg Try.prog 54 := ⟨by kernel_rfl⟩
instance : TyI Try.prog 54 2 48 ([.slice none 0 0, .slice none 0 0]) := ⟨by kernel_rfl, by kernel_rfl⟩
instance : TyF Try.prog 54 0 0 38 2 := ⟨by kernel_rfl⟩
instance : TyS Try.prog 54 [(0, 2)] := ⟨by kernel_rfl⟩
-- 55 weirgateref26.Wire
instance : TyAgg Try.prog 55 := ⟨by kernel_rfl⟩
instance : TyI Try.prog 55 2 48 ([.slice none 0 0, .slice none 0 0]) := ⟨by kernel_rfl, by kernel_rfl⟩
instance : TyF Try.prog 55 0 0 38 2 := ⟨by kernel_rfl⟩
instance : TyS Try.prog 55 [(0, 2)] := ⟨by kernel_rfl⟩
-- 58 uint
instance : TyU Try.prog 58 (.int .u64) := ⟨by kernel_rfl⟩
instance : TyInt Try.prog 58 .u64 := ⟨by kernel_rfl⟩
instance : TyOne Try.prog 58 := ⟨by kernel_rfl⟩
instance : TyI Try.prog 58 1 8 ([.int .u64 0]) := ⟨by kernel_rfl, by kernel_rfl⟩
-- 59 struct { low uint32; high uint32 }
instance : TyAgg Try.prog 59 := ⟨by kernel_rfl⟩
instance : TyI Try.prog 59 2 8 ([.int .u32 0, .int .u32 0]) := ⟨by kernel_rfl, by kernel_rfl⟩
instance : TyFlat Try.prog 59 ([.i .u32, .i .u32]) := ⟨by kernel_rfl, by kernel_rfl, by kernel_rfl, by kernel_rfl⟩
instance : TyF Try.prog 59 0 0 23 1 := ⟨by kernel_rfl⟩
instance : TyF Try.prog 59 1 1 23 1 := ⟨by kernel_rfl⟩
instance : TyS Try.prog 59 [(0, 1), (1, 1)] := ⟨by kernel_rfl⟩
-- 60 tally.sums
instance : TyAgg Try.prog 60 := ⟨by kernel_rfl⟩
instance : TyI Try.prog 60 2 8 ([.int .u32 0, .int .u32 0]) := ⟨by kernel_rfl, by kernel_rfl⟩
instance : TyFlat Try.prog 60 ([.i .u32, .i .u32]) := ⟨by kernel_rfl, by kernel_rfl, by kernel_rfl, by kernel_rfl⟩
instance : TyF Try.prog 60 0 0 23 1 := ⟨by kernel_rfl⟩
instance : TyF Try.prog 60 1 1 23 1 := ⟨by kernel_rfl⟩
instance : TyS Try.prog 60 [(0, 1), (1, 1)] := ⟨by kernel_rfl⟩
-- 63 *[][]uint8
instance : TyU Try.prog 63 (.pointer 22) := ⟨by kernel_rfl⟩
instance : TyPtr Try.prog 63 22 := ⟨by kernel_rfl⟩
instance : TyOne Try.prog 63 := ⟨by kernel_rfl⟩
instance : TyI Try.prog 63 1 8 ([.pointer none]) := ⟨by kernel_rfl, by kernel_rfl⟩
-- 66 *tally.sums
instance : TyU Try.prog 66 (.pointer 60) := ⟨by kernel_rfl⟩
instance : TyPtr Try.prog 66 60 := ⟨by kernel_rfl⟩
instance : TyOne Try.prog 66 := ⟨by kernel_rfl⟩
instance : TyI Try.prog 66 1 8 ([.pointer none]) := ⟨by kernel_rfl, by kernel_rfl⟩
-- 76 *uint8
instance : TyU Try.prog 76 (.pointer 5) := ⟨by kernel_rfl⟩
instance : TyPtr Try.prog 76 5 := ⟨by kernel_rfl⟩
instance : TyOne Try.prog 76 := ⟨by kernel_rfl⟩
instance : TyI Try.prog 76 1 8 ([.pointer none]) := ⟨by kernel_rfl, by kernel_rfl⟩
end Go.Proofs.Ytdjpocnijfhcgaa
