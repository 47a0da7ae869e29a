import Derived.Test.YtnnhopjnpplfcaaSlkP
import Derived.Test.YtnnhopjnpplfcaaChecked
set_option linter.unusedVariables false
namespace Go.Proofs.Ytnnhopjnpplfcaa
open Slk
-- 2 int64
instance : TyU Try.prog 2 (.int .i64) := ⟨by kernel_rfl⟩
instance : TyInt Try.prog 2 .i64 := ⟨by kernel_rfl⟩
instance : TyOne Try.prog 2 := ⟨by kernel_rfl⟩
instance : TyI Try.prog 2 1 8 ([.int .i64 0]) := ⟨by kernel_rfl, by kernel_rfl⟩
-- 3 int
instance : TyU Try.prog 3 (.int .i64) := ⟨by kernel_rfl⟩
instance : TyInt Try.prog 3 .i64 := ⟨by kernel_rfl⟩
instance : TyOne Try.prog 3 := ⟨by kernel_rfl⟩
instance : TyI Try.prog 3 1 8 ([.int .i64 0]) := ⟨by kernel_rfl, by kernel_rfl⟩
-- 4 bool
instance : TyU Try.prog 4 (.bool) := ⟨by kernel_rfl⟩
instance : TyBool Try.prog 4 := ⟨by kernel_rfl⟩
instance : TyOne Try.prog 4 := ⟨by kernel_rfl⟩
instance : TyI Try.prog 4 1 1 ([.bool false]) := ⟨by kernel_rfl, by kernel_rfl⟩
-- 5 uint8
instance : TyU Try.prog 5 (.int .u8) := ⟨by kernel_rfl⟩
instance : TyInt Try.prog 5 .u8 := ⟨by kernel_rfl⟩
instance : TyOne Try.prog 5 := ⟨by kernel_rfl⟩
instance : TyI Try.prog 5 1 1 ([.int .u8 0]) := ⟨by kernel_rfl, by kernel_rfl⟩
-- 9 string
instance : TyU Try.prog 9 (.string) := ⟨by kernel_rfl⟩
instance : TyStr Try.prog 9 := ⟨by kernel_rfl⟩
instance : TyOne Try.prog 9 := ⟨by kernel_rfl⟩
instance : TyI Try.prog 9 1 16 ([.string ⟨#[]⟩]) := ⟨by kernel_rfl, by kernel_rfl⟩
-- 21 int32
instance : TyU Try.prog 21 (.int .i32) := ⟨by kernel_rfl⟩
instance : TyInt Try.prog 21 .i32 := ⟨by kernel_rfl⟩
instance : TyOne Try.prog 21 := ⟨by kernel_rfl⟩
instance : TyI Try.prog 21 1 4 ([.int .i32 0]) := ⟨by kernel_rfl, by kernel_rfl⟩
-- 22 []weirgatelaw02.Step
instance : TyU Try.prog 22 (.slice 33) := ⟨by kernel_rfl⟩
instance : TySlice Try.prog 22 33 := ⟨by kernel_rfl⟩
instance : TyOne Try.prog 22 := ⟨by kernel_rfl⟩
instance : TyI Try.prog 22 1 24 ([.slice none 0 0]) := ⟨by kernel_rfl, by kernel_rfl⟩
-- 23 []bool
instance : TyU Try.prog 23 (.slice 4) := ⟨by kernel_rfl⟩
instance : TySlice Try.prog 23 4 := ⟨by kernel_rfl⟩
instance : TyOne Try.prog 23 := ⟨by kernel_rfl⟩
instance : TyI Try.prog 23 1 24 ([.slice none 0 0]) := ⟨by kernel_rfl, by kernel_rfl⟩
-- 24 *sector.Disk
instance : TyU Try.prog 24 (.pointer 74) := ⟨by kernel_rfl⟩
instance : TyPtr Try.prog 24 74 := ⟨by kernel_rfl⟩
instance : TyOne Try.prog 24 := ⟨by kernel_rfl⟩
instance : TyI Try.prog 24 1 8 ([.pointer none]) := ⟨by kernel_rfl, by kernel_rfl⟩
-- 25 api.Errno
instance : TyU Try.prog 25 (.int .i64) := ⟨by kernel_rfl⟩
instance : TyInt Try.prog 25 .i64 := ⟨by kernel_rfl⟩
instance : TyOne Try.prog 25 := ⟨by kernel_rfl⟩
instance : TyI Try.prog 25 1 8 ([.int .i64 0]) := ⟨by kernel_rfl, by kernel_rfl⟩
-- 30 [64]uint8
instance : TyU Try.prog 30 (.array 64 5) := ⟨by kernel_rfl⟩
instance : TyArr Try.prog 30 64 5 := ⟨by kernel_rfl⟩
instance : TyAgg Try.prog 30 := ⟨by kernel_rfl⟩
instance : TyI Try.prog 30 64 64 (List.replicate 64 (.int .u8 0)) := ⟨by kernel_rfl, by kernel_rfl⟩
instance : TyFlat Try.prog 30 (List.replicate 64 (.i .u8)) := ⟨by kernel_rfl, by kernel_rfl, by kernel_rfl, by kernel_rfl⟩
-- 32 struct { Kind int; I int; At int; V uint8; Keep []bool }
instance : TyAgg Try.prog 32 := ⟨by kernel_rfl⟩
instance : TyI Try.prog 32 5 56 ([.int .i64 0, .int .i64 0, .int .i64 0, .int .u8 0, .slice none 0 0]) := ⟨by kernel_rfl, by kernel_rfl⟩
instance : TyF Try.prog 32 0 0 3 1 := ⟨by kernel_rfl⟩
instance : TyF Try.prog 32 1 1 3 1 := ⟨by kernel_rfl⟩
instance : TyF Try.prog 32 2 2 3 1 := ⟨by kernel_rfl⟩
instance : TyF Try.prog 32 3 3 5 1 := ⟨by kernel_rfl⟩
instance : TyF Try.prog 32 4 4 23 1 := ⟨by kernel_rfl⟩
instance : TyS Try.prog 32 [(0, 1), (1, 1), (2, 1), (3, 1), (4, 1)] := ⟨by kernel_rfl⟩
-- 33 weirgatelaw02.Step
instance : TyAgg Try.prog 33 := ⟨by kernel_rfl⟩
instance : TyI Try.prog 33 5 56 ([.int .i64 0, .int .i64 0, .int .i64 0, .int .u8 0, .slice none 0 0]) := ⟨by kernel_rfl, by kernel_rfl⟩
instance : TyF Try.prog 33 0 0 3 1 := ⟨by kernel_rfl⟩
instance : TyF Try.prog 33 1 1 3 1 := ⟨by kernel_rfl⟩
instance : TyF Try.prog 33 2 2 3 1 := ⟨by kernel_rfl⟩
instance : TyF Try.prog 33 3 3 5 1 := ⟨by kernel_rfl⟩
instance : TyF Try.prog 33 4 4 23 1 := ⟨by kernel_rfl⟩
instance : TyS Try.prog 33 [(0, 1), (1, 1), (2, 1), (3, 1), (4, 1)] := ⟨by kernel_rfl⟩
-- 40 *weirgateref02.Disk
instance : TyU Try.prog 40 (.pointer 52) := ⟨by kernel_rfl⟩
instance : TyPtr Try.prog 40 52 := ⟨by kernel_rfl⟩
instance : TyOne Try.prog 40 := ⟨by kernel_rfl⟩
instance : TyI Try.prog 40 1 8 ([.pointer none]) := ⟨by kernel_rfl, by kernel_rfl⟩
-- 49 [][64]uint8
instance : TyU Try.prog 49 (.slice 30) := ⟨by kernel_rfl⟩
instance : TySlice Try.prog 49 30 := ⟨by kernel_rfl⟩
instance : TyOne Try.prog 49 := ⟨by kernel_rfl⟩
instance : TyI Try.prog 49 1 24 ([.slice none 0 0]) := ⟨by kernel_rfl, by kernel_rfl⟩
-- 50 []weirgateref02.Write
instance : TyU Try.prog 50 (.slice 80) := ⟨by kernel_rfl⟩
instance : TySlice Try.prog 50 80 := ⟨by kernel_rfl⟩
instance : TyOne Try.prog 50 := ⟨by kernel_rfl⟩
instance : TyI Try.prog 50 1 24 ([.slice none 0 0]) := ⟨by kernel_rfl, by kernel_rfl⟩
-- 51 struct { S [][64]uint8; P []weirgateref02.Write }
instance : TyAgg Try.prog 51 := ⟨by kernel_rfl⟩
instance : TyI Try.prog 51 2 48 ([.slice none 0 0, .slice none 0 0]) := ⟨by kernel_rfl, by kernel_rfl⟩
instance : TyF Try.prog 51 0 0 49 1 := ⟨by kernel_rfl⟩
instance : TyF Try.prog 51 1 1 50 1 := ⟨by kernel_rfl⟩
instance : TyS Try.prog 51 [(0, 1), (1, 1)] := ⟨by kernel_rfl⟩
-- 52 weirgateref02.Disk
instance : TyAgg Try.prog 52 := ⟨by kernel_rfl⟩
instance : TyI Try.prog 52 2 48 ([.slice none 0 0, .slice none 0 0]) := ⟨by kernel_rfl, by kernel_rfl⟩
instance : TyF Try.prog 52 0 0 49 1 := ⟨by kernel_rfl⟩
instance : TyF Try.prog 52 1 1 50 1 := ⟨by kernel_rfl⟩
instance : TyS Try.prog 52 [(0, 1), (1, 1)] := ⟨by kernel_rfl⟩
-- 54 [8][64]uint8
instance : TyU Try.prog 54 (.array 8 30) := ⟨by kernel_rfl⟩
instance : TyArr Try.prog 54 8 30 := ⟨by kernel_rfl⟩
instance : TyAgg Try.prog 54 := ⟨by kernel_rfl⟩
instance : TyI Try.prog 54 512 512 (List.replicate 512 (.int .u8 0)) := ⟨by kernel_rfl, by kernel_rfl⟩
instance : TyFlat Try.prog 54 (List.replicate 512 (.i .u8)) := ⟨by kernel_rfl, by kernel_rfl, by kernel_rfl, by kernel_rfl⟩
-- 57 [6][64]uint8
instance : TyU Try.prog 57 (.array 6 30) := ⟨by kernel_rfl⟩
instance : TyArr Try.prog 57 6 30 := ⟨by kernel_rfl⟩
instance : TyAgg Try.prog 57 := ⟨by kernel_rfl⟩
instance : TyI Try.prog 57 384 384 (List.replicate 384 (.int .u8 0)) := ⟨by kernel_rfl, by kernel_rfl⟩
instance : TyFlat Try.prog 57 (List.replicate 384 (.i .u8)) := ⟨by kernel_rfl, by kernel_rfl, by kernel_rfl, by kernel_rfl⟩
-- 59 uint32
instance : TyU Try.prog 59 (.int .u32) := ⟨by kernel_rfl⟩
instance : TyInt Try.prog 59 .u32 := ⟨by kernel_rfl⟩
instance : TyOne Try.prog 59 := ⟨by kernel_rfl⟩
instance : TyI Try.prog 59 1 4 ([.int .u32 0]) := ⟨by kernel_rfl, by kernel_rfl⟩
-- 60 []uint8
instance : TyU Try.prog 60 (.slice 5) := ⟨by kernel_rfl⟩
instance : TySlice Try.prog 60 5 := ⟨by kernel_rfl⟩
instance : TyOne Try.prog 60 := ⟨by kernel_rfl⟩
instance : TyI Try.prog 60 1 24 ([.slice none 0 0]) := ⟨by kernel_rfl, by kernel_rfl⟩
-- 61 struct { Kind int; Epoch uint32; Seq uint32; B []uint8 }
instance : TyAgg Try.prog 61 := ⟨by kernel_rfl⟩
instance : TyI Try.prog 61 4 40 ([.int .i64 0, .int .u32 0, .int .u32 0, .slice none 0 0]) := ⟨by kernel_rfl, by kernel_rfl⟩
instance : TyF Try.prog 61 0 0 3 1 := ⟨by kernel_rfl⟩
instance : TyF Try.prog 61 1 1 59 1 := ⟨by kernel_rfl⟩
instance : TyF Try.prog 61 2 2 59 1 := ⟨by kernel_rfl⟩
instance : TyF Try.prog 61 3 3 60 1 := ⟨by kernel_rfl⟩
instance : TyS Try.prog 61 [(0, 1), (1, 1), (2, 1), (3, 1)] := ⟨by kernel_rfl⟩
-- 62 entry.Entry
instance : TyAgg Try.prog 62 := ⟨by kernel_rfl⟩
instance : TyI Try.prog 62 4 40 ([.int .i64 0, .int .u32 0, .int .u32 0, .slice none 0 0]) := ⟨by kernel_rfl, by kernel_rfl⟩
instance : TyF Try.prog 62 0 0 3 1 := ⟨by kernel_rfl⟩
instance : TyF Try.prog 62 1 1 59 1 := ⟨by kernel_rfl⟩
instance : TyF Try.prog 62 2 2 59 1 := ⟨by kernel_rfl⟩
instance : TyF Try.prog 62 3 3 60 1 := ⟨by kernel_rfl⟩
instance : TyS Try.prog 62 [(0, 1), (1, 1), (2, 1), (3, 1)] := ⟨by kernel_rfl⟩
-- 72 []sector.late
instance : TyU Try.prog 72 (.slice 77) := ⟨by kernel_rfl⟩
instance : TySlice Try.prog 72 77 := ⟨by kernel_rfl⟩
instance : TyOne Try.prog 72 := ⟨by kernel_rfl⟩
instance : TyI Try.prog 72 1 24 ([.slice none 0 0]) := ⟨by kernel_rfl, by kernel_rfl⟩
-- 73 struct { done [][64]uint8; pending []sector.late }
instance : TyAgg Try.prog 73 := ⟨by kernel_rfl⟩
instance : TyI Try.prog 73 2 48 ([.slice none 0 0, .slice none 0 0]) := ⟨by kernel_rfl, by kernel_rfl⟩
instance : TyF Try.prog 73 0 0 49 1 := ⟨by kernel_rfl⟩
instance : TyF Try.prog 73 1 1 72 1 := ⟨by kernel_rfl⟩
instance : TyS Try.prog 73 [(0, 1), (1, 1)] := ⟨by kernel_rfl⟩
-- 74 sector.Disk
instance : TyAgg Try.prog 74 := ⟨by kernel_rfl⟩
instance : TyI Try.prog 74 2 48 ([.slice none 0 0, .slice none 0 0]) := ⟨by kernel_rfl, by kernel_rfl⟩
instance : TyF Try.prog 74 0 0 49 1 := ⟨by kernel_rfl⟩
instance : TyF Try.prog 74 1 1 72 1 := ⟨by kernel_rfl⟩
instance : TyS Try.prog 74 [(0, 1), (1, 1)] := ⟨by kernel_rfl⟩
-- 76 struct { i int; s [64]uint8 }
instance : TyAgg Try.prog 76 := ⟨by kernel_rfl⟩
instance : TyI Try.prog 76 65 72 ([.int .i64 0] ++ List.replicate 64 (.int .u8 0)) := ⟨by kernel_rfl, by kernel_rfl⟩
instance : TyFlat Try.prog 76 ([.i .i64, .i .u8, .i .u8, .i .u8, .i .u8, .i .u8, .i .u8, .i .u8, .i .u8, .i .u8, .i .u8, .i .u8, .i .u8, .i .u8, .i .u8, .i .u8, .i .u8, .i .u8, .i .u8, .i .u8, .i .u8, .i .u8, .i .u8, .i .u8, .i .u8, .i .u8, .i .u8, .i .u8, .i .u8, .i .u8, .i .u8, .i .u8, .i .u8, .i .u8, .i .u8, .i .u8, .i .u8, .i .u8, .i .u8, .i .u8, .i .u8, .i .u8, .i .u8, .i .u8, .i .u8, .i .u8, .i .u8, .i .u8, .i .u8, .i .u8, .i .u8, .i .u8, .i .u8, .i .u8, .i .u8, .i .u8, .i .u8, .i .u8, .i .u8, .i .u8, .i .u8, .i .u8, .i .u8, .i .u8, .i .u8]) := ⟨by kernel_rfl, by kernel_rfl, by kernel_rfl, by kernel_rfl⟩
instance : TyF Try.prog 76 0 0 3 1 := ⟨by kernel_rfl⟩
instance : TyF Try.prog 76 1 1 30 64 := ⟨by kernel_rfl⟩
instance : TyS Try.prog 76 [(0, 1), (1, 64)] := ⟨by kernel_rfl⟩
-- 77 sector.late
instance : TyAgg Try.prog 77 := ⟨by kernel_rfl⟩
instance : TyI Try.prog 77 65 72 ([.int .i64 0] ++ List.replicate 64 (.int .u8 0)) := ⟨by kernel_rfl, by kernel_rfl⟩
instance : TyFlat Try.prog 77 ([.i .i64, .i .u8, .i .u8, .i .u8, .i .u8, .i .u8, .i .u8, .i .u8, .i .u8, .i .u8, .i .u8, .i .u8, .i .u8, .i .u8, .i .u8, .i .u8, .i .u8, .i .u8, .i .u8, .i .u8, .i .u8, .i .u8, .i .u8, .i .u8, .i .u8, .i .u8, .i .u8, .i .u8, .i .u8, .i .u8, .i .u8, .i .u8, .i .u8, .i .u8, .i .u8, .i .u8, .i .u8, .i .u8, .i .u8, .i .u8, .i .u8, .i .u8, .i .u8, .i .u8, .i .u8, .i .u8, .i .u8, .i .u8, .i .u8, .i .u8, .i .u8, .i .u8, .i .u8, .i .u8, .i .u8, .i .u8, .i .u8, .i .u8, .i .u8, .i .u8, .i .u8, .i .u8, .i .u8, .i .u8, .i .u8]) := ⟨by kernel_rfl, by kernel_rfl, by kernel_rfl, by kernel_rfl⟩
instance : TyF Try.prog 77 0 0 3 1 := ⟨by kernel_rfl⟩
instance : TyF Try.prog 77 1 1 30 64 := ⟨by kernel_rfl⟩
instance : TyS Try.prog 77 [(0, 1), (1, 64)] := ⟨by kernel_rfl⟩
-- 79 struct { I int; S [64]uint8 }
instance : TyAgg Try.prog 79 := ⟨by kernel_rfl⟩
instance : TyI Try.prog 79 65 72 ([.int .i64 0] ++ List.replicate 64 (.int .u8 0)) := ⟨by kernel_rfl, by kernel_rfl⟩
instance : TyFlat Try.prog 79 ([.i .i64, .i .u8, .i .u8, .i .u8, .i .u8, .i .u8, .i .u8, .i .u8, .i .u8, .i .u8, .i .u8, .i .u8, .i .u8, .i .u8, .i .u8, .i .u8, .i .u8, .i .u8, .i .u8, .i .u8, .i .u8, .i .u8, .i .u8, .i .u8, .i .u8, .i .u8, .i .u8, .i .u8, .i .u8, .i .u8, .i .u8, .i .u8, .i .u8, .i .u8, .i .u8, .i .u8, .i .u8, .i .u8, .i .u8, .i .u8, .i .u8, .i .u8, .i .u8, .i .u8, .i .u8, .i .u8, .i .u8, .i .u8, .i .u8, .i .u8, .i .u8, .i .u8, .i .u8, .i .u8, .i .u8, .i .u8, .i .u8, .i .u8, .i .u8, .i .u8, .i .u8, .i .u8, .i .u8, .i .u8, .i .u8]) := ⟨by kernel_rfl, by kernel_rfl, by kernel_rfl, by kernel_rfl⟩
instance : TyF Try.prog 79 0 0 3 1 := ⟨by kernel_rfl⟩
instance : TyF Try.prog 79 1 1 30 64 := ⟨by kernel_rfl⟩
instance : TyS Try.prog 79 [(0, 1), (1, 64)] := ⟨by kernel_rfl⟩
-- 80 weirgateref02.Write
instance : TyAgg Try.prog 80 := ⟨by kernel_rfl⟩
instance : TyI Try.prog 80 65 72 ([.int .i64 0] ++ List.replicate 64 (.int .u8 0)) := ⟨by kernel_rfl, by kernel_rfl⟩
instance : TyFlat Try.prog 80 ([.i .i64, .i .u8, .i .u8, .i .u8, .i .u8, .i .u8, .i .u8, .i .u8, .i .u8, .i .u8, .i .u8, .i .u8, .i .u8, .i .u8, .i .u8, .i .u8, .i .u8, .i .u8, .i .u8, .i .u8, .i .u8, .i .u8, .i .u8, .i .u8, .i .u8, .i .u8, .i .u8, .i .u8, .i .u8, .i .u8, .i .u8, .i .u8, .i .u8, .i .u8, .i .u8, .i .u8, .i .u8, .i .u8, .i .u8, .i .u8, .i .u8, .i .u8, .i .u8, .i .u8, .i .u8, .i .u8, .i .u8, .i .u8, .i .u8, .i .u8, .i .u8, .i .u8, .i .u8, .i .u8, .i .u8, .i .u8, .i .u8, .i .u8, .i .u8, .i .u8, .i .u8, .i .u8, .i .u8, .i .u8, .i .u8]) := ⟨by kernel_rfl, by kernel_rfl, by kernel_rfl, by kernel_rfl⟩
instance : TyF Try.prog 80 0 0 3 1 := ⟨by kernel_rfl⟩
instance : TyF Try.prog 80 1 1 30 64 := ⟨by kernel_rfl⟩
instance : TyS Try.prog 80 [(0, 1), (1, 64)] := ⟨by kernel_rfl⟩
-- 84 struct { Kind int; Epoch uint32; Seq uint32 }
instance : TyAgg Try.prog 84 := ⟨by kernel_rfl⟩
instance : TyI Try.prog 84 3 16 ([.int .i64 0, .int .u32 0, .int .u32 0]) := ⟨by kernel_rfl, by kernel_rfl⟩
instance : TyFlat Try.prog 84 ([.i .i64, .i .u32, .i .u32]) := ⟨by kernel_rfl, by kernel_rfl, by kernel_rfl, by kernel_rfl⟩
instance : TyF Try.prog 84 0 0 3 1 := ⟨by kernel_rfl⟩
instance : TyF Try.prog 84 1 1 59 1 := ⟨by kernel_rfl⟩
instance : TyF Try.prog 84 2 2 59 1 := ⟨by kernel_rfl⟩
instance : TyS Try.prog 84 [(0, 1), (1, 1), (2, 1)] := ⟨by kernel_rfl⟩
-- 85 entry.head
instance : TyAgg Try.prog 85 := ⟨by kernel_rfl⟩
instance : TyI Try.prog 85 3 16 ([.int .i64 0, .int .u32 0, .int .u32 0]) := ⟨by kernel_rfl, by kernel_rfl⟩
instance : TyFlat Try.prog 85 ([.i .i64, .i .u32, .i .u32]) := ⟨by kernel_rfl, by kernel_rfl, by kernel_rfl, by kernel_rfl⟩
instance : TyF Try.prog 85 0 0 3 1 := ⟨by kernel_rfl⟩
instance : TyF Try.prog 85 1 1 59 1 := ⟨by kernel_rfl⟩
instance : TyF Try.prog 85 2 2 59 1 := ⟨by kernel_rfl⟩
instance : TyS Try.prog 85 [(0, 1), (1, 1), (2, 1)] := ⟨by kernel_rfl⟩
-- 86 struct { entry.head; b []uint8 }
instance : TyAgg Try.prog 86 := ⟨by kernel_rfl⟩
instance : TyI Try.prog 86 4 40 ([.int .i64 0, .int .u32 0, .int .u32 0, .slice none 0 0]) := ⟨by kernel_rfl, by kernel_rfl⟩
instance : TyF Try.prog 86 0 0 85 3 := ⟨by kernel_rfl⟩
instance : TyF Try.prog 86 1 3 60 1 := ⟨by kernel_rfl⟩
instance : TyS Try.prog 86 [(0, 3), (3, 1)] := ⟨by kernel_rfl⟩
-- 87 entry.full
instance : TyAgg Try.prog 87 := ⟨by kernel_rfl⟩
instance : TyI Try.prog 87 4 40 ([.int .i64 0, .int .u32 0, .int .u32 0, .slice none 0 0]) := ⟨by kernel_rfl, by kernel_rfl⟩
instance : TyF Try.prog 87 0 0 85 3 := ⟨by kernel_rfl⟩
instance : TyF Try.prog 87 1 3 60 1 := ⟨by kernel_rfl⟩
instance : TyS Try.prog 87 [(0, 3), (3, 1)] := ⟨by kernel_rfl⟩
-- 95 uint
instance : TyU Try.prog 95 (.int .u64) := ⟨by kernel_rfl⟩
instance : TyInt Try.prog 95 .u64 := ⟨by kernel_rfl⟩
instance : TyOne Try.prog 95 := ⟨by kernel_rfl⟩
instance : TyI Try.prog 95 1 8 ([.int .u64 0]) := ⟨by kernel_rfl, by kernel_rfl⟩
-- 97 [][]uint8
instance : TyU Try.prog 97 (.slice 60) := ⟨by kernel_rfl⟩
instance : TySlice Try.prog 97 60 := ⟨by kernel_rfl⟩
instance : TyOne Try.prog 97 := ⟨by kernel_rfl⟩
instance : TyI Try.prog 97 1 24 ([.slice none 0 0]) := ⟨by kernel_rfl, by kernel_rfl⟩
-- 99 struct { low uint32; high uint32 }
instance : TyAgg Try.prog 99 := ⟨by kernel_rfl⟩
instance : TyI Try.prog 99 2 8 ([.int .u32 0, .int .u32 0]) := ⟨by kernel_rfl, by kernel_rfl⟩
instance : TyFlat Try.prog 99 ([.i .u32, .i .u32]) := ⟨by kernel_rfl, by kernel_rfl, by kernel_rfl, by kernel_rfl⟩
instance : TyF Try.prog 99 0 0 59 1 := ⟨by kernel_rfl⟩
instance : TyF Try.prog 99 1 1 59 1 := ⟨by kernel_rfl⟩
instance : TyS Try.prog 99 [(0, 1), (1, 1)] := ⟨by kernel_rfl⟩
-- 100 tally.sums
instance : TyAgg Try.prog 100 := ⟨by kernel_rfl⟩
instance : TyI Try.prog 100 2 8 ([.int .u32 0, .int .u32 0]) := ⟨by kernel_rfl, by kernel_rfl⟩
instance : TyFlat Try.prog 100 ([.i .u32, .i .u32]) := ⟨by kernel_rfl, by kernel_rfl, by kernel_rfl, by kernel_rfl⟩
instance : TyF Try.prog 100 0 0 59 1 := ⟨by kernel_rfl⟩
instance : TyF Try.prog 100 1 1 59 1 := ⟨by kernel_rfl⟩
instance : TyS Try.prog 100 [(0, 1), (1, 1)] := ⟨by kernel_rfl⟩
-- 103 *tally.sums
instance : TyU Try.prog 103 (.pointer 100) := ⟨by kernel_rfl⟩
instance : TyPtr Try.prog 103 100 := ⟨by kernel_rfl⟩
instance : TyOne Try.prog 103 := ⟨by kernel_rfl⟩
instance : TyI Try.prog 103 1 8 ([.pointer none]) := ⟨by kernel_rfl, by kernel_rfl⟩
-- 113 *uint8
instance : TyU Try.prog 113 (.pointer 5) := ⟨by kernel_rfl⟩
instance : TyPtr Try.prog 113 5 := ⟨by kernel_rfl⟩
instance : TyOne Try.prog 113 := ⟨by kernel_rfl⟩
instance : TyI Try.prog 113 1 8 ([.pointer none]) := ⟨by kernel_rfl, by kernel_rfl⟩
end Go.Proofs.Ytnnhopjnpplfcaa
