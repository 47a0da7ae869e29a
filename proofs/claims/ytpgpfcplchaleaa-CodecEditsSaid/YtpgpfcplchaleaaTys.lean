import Derived.Test.YtpgpfcplchaleaaSlkP
import Derived.Test.YtpgpfcplchaleaaChecked
set_option linter.unusedVariables false
namespace Go.Proofs.Ytpgpfcplchaleaa
open Slk
-- 2 int64
instance : TyU Try.prog 2 (.int .i64) := ⟨by kernel_rfl⟩
instance : TyInt Try.prog 2 .i64 := ⟨by kernel_rfl⟩
instance : TyOne Try.prog 2 := ⟨by kernel_rfl⟩
instance : TyI Try.prog 2 1 8 ([.int .i64 0]) := ⟨by kernel_rfl, by kernel_rfl⟩
-- 3 int
instance : TyU Try.prog 3 (.int .i64) := ⟨by kernel_rfl⟩
instance : TyInt Try.prog 3 .i64 := ⟨by kernel_rfl⟩
instance : TyOne Try.prog 3 := ⟨by kernel_rfl⟩
instance : TyI Try.prog 3 1 8 ([.int .i64 0]) := ⟨by kernel_rfl, by kernel_rfl⟩
-- 4 bool
instance : TyU Try.prog 4 (.bool) := ⟨by kernel_rfl⟩
instance : TyBool Try.prog 4 := ⟨by kernel_rfl⟩
instance : TyOne Try.prog 4 := ⟨by kernel_rfl⟩
instance : TyI Try.prog 4 1 1 ([.bool false]) := ⟨by kernel_rfl, by kernel_rfl⟩
-- 5 uint8
instance : TyU Try.prog 5 (.int .u8) := ⟨by kernel_rfl⟩
instance : TyInt Try.prog 5 .u8 := ⟨by kernel_rfl⟩
instance : TyOne Try.prog 5 := ⟨by kernel_rfl⟩
instance : TyI Try.prog 5 1 1 ([.int .u8 0]) := ⟨by kernel_rfl, by kernel_rfl⟩
-- 9 string
instance : TyU Try.prog 9 (.string) := ⟨by kernel_rfl⟩
instance : TyStr Try.prog 9 := ⟨by kernel_rfl⟩
instance : TyOne Try.prog 9 := ⟨by kernel_rfl⟩
instance : TyI Try.prog 9 1 16 ([.string ⟨#[]⟩]) := ⟨by kernel_rfl, by kernel_rfl⟩
-- 21 int32
instance : TyU Try.prog 21 (.int .i32) := ⟨by kernel_rfl⟩
instance : TyInt Try.prog 21 .i32 := ⟨by kernel_rfl⟩
instance : TyOne Try.prog 21 := ⟨by kernel_rfl⟩
instance : TyI Try.prog 21 1 4 ([.int .i32 0]) := ⟨by kernel_rfl, by kernel_rfl⟩
-- 22 []api.PortCfg
instance : TyU Try.prog 22 (.slice 70) := ⟨by kernel_rfl⟩
instance : TySlice Try.prog 22 70 := ⟨by kernel_rfl⟩
instance : TyOne Try.prog 22 := ⟨by kernel_rfl⟩
instance : TyI Try.prog 22 1 24 ([.slice none 0 0]) := ⟨by kernel_rfl, by kernel_rfl⟩
-- 23 []api.Vlan
instance : TyU Try.prog 23 (.slice 66) := ⟨by kernel_rfl⟩
instance : TySlice Try.prog 23 66 := ⟨by kernel_rfl⟩
instance : TyOne Try.prog 23 := ⟨by kernel_rfl⟩
instance : TyI Try.prog 23 1 24 ([.slice none 0 0]) := ⟨by kernel_rfl, by kernel_rfl⟩
-- 24 []api.Static
instance : TyU Try.prog 24 (.slice 72) := ⟨by kernel_rfl⟩
instance : TySlice Try.prog 24 72 := ⟨by kernel_rfl⟩
instance : TyOne Try.prog 24 := ⟨by kernel_rfl⟩
instance : TyI Try.prog 24 1 24 ([.slice none 0 0]) := ⟨by kernel_rfl, by kernel_rfl⟩
-- 25 struct { Prio int; MaxAge int; Delay int; Ports []api.PortCfg; Vlans []api.Vlan; Statics []api.Static }
instance : TyAgg Try.prog 25 := ⟨by kernel_rfl⟩
instance : TyI Try.prog 25 6 96 ([.int .i64 0, .int .i64 0, .int .i64 0, .slice none 0 0, .slice none 0 0, .slice none 0 0]) := ⟨by kernel_rfl, by kernel_rfl⟩
instance : TyF Try.prog 25 0 0 3 1 := ⟨by kernel_rfl⟩
instance : TyF Try.prog 25 1 1 3 1 := ⟨by kernel_rfl⟩
instance : TyF Try.prog 25 2 2 3 1 := ⟨by kernel_rfl⟩
instance : TyF Try.prog 25 3 3 22 1 := ⟨by kernel_rfl⟩
instance : TyF Try.prog 25 4 4 23 1 := ⟨by kernel_rfl⟩
instance : TyF Try.prog 25 5 5 24 1 := ⟨by kernel_rfl⟩
instance : TyS Try.prog 25 [(0, 1), (1, 1), (2, 1), (3, 1), (4, 1), (5, 1)] := ⟨by kernel_rfl⟩
-- 26 api.Config
instance : TyAgg Try.prog 26 := ⟨by kernel_rfl⟩
instance : TyI Try.prog 26 6 96 ([.int .i64 0, .int .i64 0, .int .i64 0, .slice none 0 0, .slice none 0 0, .slice none 0 0]) := ⟨by kernel_rfl, by kernel_rfl⟩
instance : TyF Try.prog 26 0 0 3 1 := ⟨by kernel_rfl⟩
instance : TyF Try.prog 26 1 1 3 1 := ⟨by kernel_rfl⟩
instance : TyF Try.prog 26 2 2 3 1 := ⟨by kernel_rfl⟩
instance : TyF Try.prog 26 3 3 22 1 := ⟨by kernel_rfl⟩
instance : TyF Try.prog 26 4 4 23 1 := ⟨by kernel_rfl⟩
instance : TyF Try.prog 26 5 5 24 1 := ⟨by kernel_rfl⟩
instance : TyS Try.prog 26 [(0, 1), (1, 1), (2, 1), (3, 1), (4, 1), (5, 1)] := ⟨by kernel_rfl⟩
-- 27 []api.Edit
instance : TyU Try.prog 27 (.slice 64) := ⟨by kernel_rfl⟩
instance : TySlice Try.prog 27 64 := ⟨by kernel_rfl⟩
instance : TyOne Try.prog 27 := ⟨by kernel_rfl⟩
instance : TyI Try.prog 27 1 24 ([.slice none 0 0]) := ⟨by kernel_rfl, by kernel_rfl⟩
-- 28 [2][]api.Edit
instance : TyU Try.prog 28 (.array 2 27) := ⟨by kernel_rfl⟩
instance : TyArr Try.prog 28 2 27 := ⟨by kernel_rfl⟩
instance : TyAgg Try.prog 28 := ⟨by kernel_rfl⟩
instance : TyI Try.prog 28 2 48 ([.slice none 0 0, .slice none 0 0]) := ⟨by kernel_rfl, by kernel_rfl⟩
-- 31 []uint8
instance : TyU Try.prog 31 (.slice 5) := ⟨by kernel_rfl⟩
instance : TySlice Try.prog 31 5 := ⟨by kernel_rfl⟩
instance : TyOne Try.prog 31 := ⟨by kernel_rfl⟩
instance : TyI Try.prog 31 1 24 ([.slice none 0 0]) := ⟨by kernel_rfl, by kernel_rfl⟩
-- 32 api.Errno
instance : TyU Try.prog 32 (.int .i64) := ⟨by kernel_rfl⟩
instance : TyInt Try.prog 32 .i64 := ⟨by kernel_rfl⟩
instance : TyOne Try.prog 32 := ⟨by kernel_rfl⟩
instance : TyI Try.prog 32 1 8 ([.int .i64 0]) := ⟨by kernel_rfl, by kernel_rfl⟩
-- 62 uint64
instance : TyU Try.prog 62 (.int .u64) := ⟨by kernel_rfl⟩
instance : TyInt Try.prog 62 .u64 := ⟨by kernel_rfl⟩
instance : TyOne Try.prog 62 := ⟨by kernel_rfl⟩
instance : TyI Try.prog 62 1 8 ([.int .u64 0]) := ⟨by kernel_rfl, by kernel_rfl⟩
-- 63 struct { Kind int; Port int; N int; Vlan int; Member uint8; Tagged uint8; Mac uint64 }
instance : TyAgg Try.prog 63 := ⟨by kernel_rfl⟩
instance : TyI Try.prog 63 7 48 ([.int .i64 0, .int .i64 0, .int .i64 0, .int .i64 0, .int .u8 0, .int .u8 0, .int .u64 0]) := ⟨by kernel_rfl, by kernel_rfl⟩
instance : TyFlat Try.prog 63 ([.i .i64, .i .i64, .i .i64, .i .i64, .i .u8, .i .u8, .i .u64]) := ⟨by kernel_rfl, by kernel_rfl, by kernel_rfl, by kernel_rfl⟩
instance : TyF Try.prog 63 0 0 3 1 := ⟨by kernel_rfl⟩
instance : TyF Try.prog 63 1 1 3 1 := ⟨by kernel_rfl⟩
instance : TyF Try.prog 63 2 2 3 1 := ⟨by kernel_rfl⟩
instance : TyF Try.prog 63 3 3 3 1 := ⟨by kernel_rfl⟩
instance : TyF Try.prog 63 4 4 5 1 := ⟨by kernel_rfl⟩
instance : TyF Try.prog 63 5 5 5 1 := ⟨by kernel_rfl⟩
instance : TyF Try.prog 63 6 6 62 1 := ⟨by kernel_rfl⟩
instance : TyS Try.prog 63 [(0, 1), (1, 1), (2, 1), (3, 1), (4, 1), (5, 1), (6, 1)] := ⟨by kernel_rfl⟩
-- 64 api.Edit
instance : TyAgg Try.prog 64 := ⟨by kernel_rfl⟩
instance : TyI Try.prog 64 7 48 ([.int .i64 0, .int .i64 0, .int .i64 0, .int .i64 0, .int .u8 0, .int .u8 0, .int .u64 0]) := ⟨by kernel_rfl, by kernel_rfl⟩
instance : TyFlat Try.prog 64 ([.i .i64, .i .i64, .i .i64, .i .i64, .i .u8, .i .u8, .i .u64]) := ⟨by kernel_rfl, by kernel_rfl, by kernel_rfl, by kernel_rfl⟩
instance : TyF Try.prog 64 0 0 3 1 := ⟨by kernel_rfl⟩
instance : TyF Try.prog 64 1 1 3 1 := ⟨by kernel_rfl⟩
instance : TyF Try.prog 64 2 2 3 1 := ⟨by kernel_rfl⟩
instance : TyF Try.prog 64 3 3 3 1 := ⟨by kernel_rfl⟩
instance : TyF Try.prog 64 4 4 5 1 := ⟨by kernel_rfl⟩
instance : TyF Try.prog 64 5 5 5 1 := ⟨by kernel_rfl⟩
instance : TyF Try.prog 64 6 6 62 1 := ⟨by kernel_rfl⟩
instance : TyS Try.prog 64 [(0, 1), (1, 1), (2, 1), (3, 1), (4, 1), (5, 1), (6, 1)] := ⟨by kernel_rfl⟩
-- 65 struct { Id int; Member uint8; Tagged uint8 }
instance : TyAgg Try.prog 65 := ⟨by kernel_rfl⟩
instance : TyI Try.prog 65 3 16 ([.int .i64 0, .int .u8 0, .int .u8 0]) := ⟨by kernel_rfl, by kernel_rfl⟩
instance : TyFlat Try.prog 65 ([.i .i64, .i .u8, .i .u8]) := ⟨by kernel_rfl, by kernel_rfl, by kernel_rfl, by kernel_rfl⟩
instance : TyF Try.prog 65 0 0 3 1 := ⟨by kernel_rfl⟩
instance : TyF Try.prog 65 1 1 5 1 := ⟨by kernel_rfl⟩
instance : TyF Try.prog 65 2 2 5 1 := ⟨by kernel_rfl⟩
instance : TyS Try.prog 65 [(0, 1), (1, 1), (2, 1)] := ⟨by kernel_rfl⟩
-- 66 api.Vlan
instance : TyAgg Try.prog 66 := ⟨by kernel_rfl⟩
instance : TyI Try.prog 66 3 16 ([.int .i64 0, .int .u8 0, .int .u8 0]) := ⟨by kernel_rfl, by kernel_rfl⟩
instance : TyFlat Try.prog 66 ([.i .i64, .i .u8, .i .u8]) := ⟨by kernel_rfl, by kernel_rfl, by kernel_rfl, by kernel_rfl⟩
instance : TyF Try.prog 66 0 0 3 1 := ⟨by kernel_rfl⟩
instance : TyF Try.prog 66 1 1 5 1 := ⟨by kernel_rfl⟩
instance : TyF Try.prog 66 2 2 5 1 := ⟨by kernel_rfl⟩
instance : TyS Try.prog 66 [(0, 1), (1, 1), (2, 1)] := ⟨by kernel_rfl⟩
-- 68 uint32
instance : TyU Try.prog 68 (.int .u32) := ⟨by kernel_rfl⟩
instance : TyInt Try.prog 68 .u32 := ⟨by kernel_rfl⟩
instance : TyOne Try.prog 68 := ⟨by kernel_rfl⟩
instance : TyI Try.prog 68 1 4 ([.int .u32 0]) := ⟨by kernel_rfl, by kernel_rfl⟩
-- 69 struct { Up bool; Cost uint32; Pvid int }
instance : TyAgg Try.prog 69 := ⟨by kernel_rfl⟩
instance : TyI Try.prog 69 3 16 ([.bool false, .int .u32 0, .int .i64 0]) := ⟨by kernel_rfl, by kernel_rfl⟩
instance : TyFlat Try.prog 69 ([.b, .i .u32, .i .i64]) := ⟨by kernel_rfl, by kernel_rfl, by kernel_rfl, by kernel_rfl⟩
instance : TyF Try.prog 69 0 0 4 1 := ⟨by kernel_rfl⟩
instance : TyF Try.prog 69 1 1 68 1 := ⟨by kernel_rfl⟩
instance : TyF Try.prog 69 2 2 3 1 := ⟨by kernel_rfl⟩
instance : TyS Try.prog 69 [(0, 1), (1, 1), (2, 1)] := ⟨by kernel_rfl⟩
-- 70 api.PortCfg
instance : TyAgg Try.prog 70 := ⟨by kernel_rfl⟩
instance : TyI Try.prog 70 3 16 ([.bool false, .int .u32 0, .int .i64 0]) := ⟨by kernel_rfl, by kernel_rfl⟩
instance : TyFlat Try.prog 70 ([.b, .i .u32, .i .i64]) := ⟨by kernel_rfl, by kernel_rfl, by kernel_rfl, by kernel_rfl⟩
instance : TyF Try.prog 70 0 0 4 1 := ⟨by kernel_rfl⟩
instance : TyF Try.prog 70 1 1 68 1 := ⟨by kernel_rfl⟩
instance : TyF Try.prog 70 2 2 3 1 := ⟨by kernel_rfl⟩
instance : TyS Try.prog 70 [(0, 1), (1, 1), (2, 1)] := ⟨by kernel_rfl⟩
-- 71 struct { Mac uint64; Vlan int; Port int }
instance : TyAgg Try.prog 71 := ⟨by kernel_rfl⟩
instance : TyI Try.prog 71 3 24 ([.int .u64 0, .int .i64 0, .int .i64 0]) := ⟨by kernel_rfl, by kernel_rfl⟩
instance : TyFlat Try.prog 71 ([.i .u64, .i .i64, .i .i64]) := ⟨by kernel_rfl, by kernel_rfl, by kernel_rfl, by kernel_rfl⟩
instance : TyF Try.prog 71 0 0 62 1 := ⟨by kernel_rfl⟩
instance : TyF Try.prog 71 1 1 3 1 := ⟨by kernel_rfl⟩
instance : TyF Try.prog 71 2 2 3 1 := ⟨by kernel_rfl⟩
instance : TyS Try.prog 71 [(0, 1), (1, 1), (2, 1)] := ⟨by kernel_rfl⟩
-- 72 api.Static
instance : TyAgg Try.prog 72 := ⟨by kernel_rfl⟩
instance : TyI Try.prog 72 3 24 ([.int .u64 0, .int .i64 0, .int .i64 0]) := ⟨by kernel_rfl, by kernel_rfl⟩
instance : TyFlat Try.prog 72 ([.i .u64, .i .i64, .i .i64]) := ⟨by kernel_rfl, by kernel_rfl, by kernel_rfl, by kernel_rfl⟩
instance : TyF Try.prog 72 0 0 62 1 := ⟨by kernel_rfl⟩
instance : TyF Try.prog 72 1 1 3 1 := ⟨by kernel_rfl⟩
instance : TyF Try.prog 72 2 2 3 1 := ⟨by kernel_rfl⟩
instance : TyS Try.prog 72 [(0, 1), (1, 1), (2, 1)] := ⟨by kernel_rfl⟩
-- 73 []uint16
instance : TyU Try.prog 73 (.slice 74) := ⟨by kernel_rfl⟩
instance : TySlice Try.prog 73 74 := ⟨by kernel_rfl⟩
instance : TyOne Try.prog 73 := ⟨by kernel_rfl⟩
instance : TyI Try.prog 73 1 24 ([.slice none 0 0]) := ⟨by kernel_rfl, by kernel_rfl⟩
-- 74 uint16
instance : TyU Try.prog 74 (.int .u16) := ⟨by kernel_rfl⟩
instance : TyInt Try.prog 74 .u16 := ⟨by kernel_rfl⟩
instance : TyOne Try.prog 74 := ⟨by kernel_rfl⟩
instance : TyI Try.prog 74 1 2 ([.int .u16 0]) := ⟨by kernel_rfl, by kernel_rfl⟩
-- 78 *codec.writer
instance : TyU Try.prog 78 (.pointer 82) := ⟨by kernel_rfl⟩
instance : TyPtr Try.prog 78 82 := ⟨by kernel_rfl⟩
instance : TyOne Try.prog 78 := ⟨by kernel_rfl⟩
instance : TyI Try.prog 78 1 8 ([.pointer none]) := ⟨by kernel_rfl, by kernel_rfl⟩
-- 79 struct { b []uint8 }
instance : TyAgg Try.prog 79 := ⟨by kernel_rfl⟩
instance : TyI Try.prog 79 1 24 ([.slice none 0 0]) := ⟨by kernel_rfl, by kernel_rfl⟩
instance : TyF Try.prog 79 0 0 31 1 := ⟨by kernel_rfl⟩
instance : TyS Try.prog 79 [(0, 1)] := ⟨by kernel_rfl⟩
-- 80 codec.list
instance : TyAgg Try.prog 80 := ⟨by kernel_rfl⟩
instance : TyI Try.prog 80 1 24 ([.slice none 0 0]) := ⟨by kernel_rfl, by kernel_rfl⟩
instance : TyF Try.prog 80 0 0 31 1 := ⟨by kernel_rfl⟩
instance : TyS Try.prog 80 [(0, 1)] := ⟨by kernel_rfl⟩
-- 81 struct { codec.list }
instance : TyAgg Try.prog 81 := ⟨by kernel_rfl⟩
instance : TyI Try.prog 81 1 24 ([.slice none 0 0]) := ⟨by kernel_rfl, by kernel_rfl⟩
instance : TyF Try.prog 81 0 0 80 1 := ⟨by kernel_rfl⟩
instance : TyS Try.prog 81 [(0, 1)] := ⟨by kernel_rfl⟩
-- 82 codec.writer
instance : TyAgg Try.prog 82 := ⟨by kernel_rfl⟩
instance : TyI Try.prog 82 1 24 ([.slice none 0 0]) := ⟨by kernel_rfl, by kernel_rfl⟩
instance : TyF Try.prog 82 0 0 80 1 := ⟨by kernel_rfl⟩
instance : TyS Try.prog 82 [(0, 1)] := ⟨by kernel_rfl⟩
-- 88 *codec.reader
instance : TyU Try.prog 88 (.pointer 92) := ⟨by kernel_rfl⟩
instance : TyPtr Try.prog 88 92 := ⟨by kernel_rfl⟩
instance : TyOne Try.prog 88 := ⟨by kernel_rfl⟩
instance : TyI Try.prog 88 1 8 ([.pointer none]) := ⟨by kernel_rfl, by kernel_rfl⟩
-- 89 struct { b []uint8; bad bool }
instance : TyAgg Try.prog 89 := ⟨by kernel_rfl⟩
instance : TyI Try.prog 89 2 32 ([.slice none 0 0, .bool false]) := ⟨by kernel_rfl, by kernel_rfl⟩
instance : TyF Try.prog 89 0 0 31 1 := ⟨by kernel_rfl⟩
instance : TyF Try.prog 89 1 1 4 1 := ⟨by kernel_rfl⟩
instance : TyS Try.prog 89 [(0, 1), (1, 1)] := ⟨by kernel_rfl⟩
-- 90 codec.rest
instance : TyAgg Try.prog 90 := ⟨by kernel_rfl⟩
instance : TyI Try.prog 90 2 32 ([.slice none 0 0, .bool false]) := ⟨by kernel_rfl, by kernel_rfl⟩
instance : TyF Try.prog 90 0 0 31 1 := ⟨by kernel_rfl⟩
instance : TyF Try.prog 90 1 1 4 1 := ⟨by kernel_rfl⟩
instance : TyS Try.prog 90 [(0, 1), (1, 1)] := ⟨by kernel_rfl⟩
-- 91 struct { codec.rest }
instance : TyAgg Try.prog 91 := ⟨by kernel_rfl⟩
instance : TyI Try.prog 91 2 32 ([.slice none 0 0, .bool false]) := ⟨by kernel_rfl, by kernel_rfl⟩
instance : TyF Try.prog 91 0 0 90 2 := ⟨by kernel_rfl⟩
instance : TyS Try.prog 91 [(0, 2)] := ⟨by kernel_rfl⟩
-- 92 codec.reader
instance : TyAgg Try.prog 92 := ⟨by kernel_rfl⟩
instance : TyI Try.prog 92 2 32 ([.slice none 0 0, .bool false]) := ⟨by kernel_rfl, by kernel_rfl⟩
instance : TyF Try.prog 92 0 0 90 2 := ⟨by kernel_rfl⟩
instance : TyS Try.prog 92 [(0, 2)] := ⟨by kernel_rfl⟩
-- 94 *weirgateref06.Reader
instance : TyU Try.prog 94 (.pointer 96) := ⟨by kernel_rfl⟩
instance : TyPtr Try.prog 94 96 := ⟨by kernel_rfl⟩
instance : TyOne Try.prog 94 := ⟨by kernel_rfl⟩
instance : TyI Try.prog 94 1 8 ([.pointer none]) := ⟨by kernel_rfl, by kernel_rfl⟩
-- 95 struct { B []uint8; Bad bool }
instance : TyAgg Try.prog 95 := ⟨by kernel_rfl⟩
instance : TyI Try.prog 95 2 32 ([.slice none 0 0, .bool false]) := ⟨by kernel_rfl, by kernel_rfl⟩
instance : TyF Try.prog 95 0 0 31 1 := ⟨by kernel_rfl⟩
instance : TyF Try.prog 95 1 1 4 1 := ⟨by kernel_rfl⟩
instance : TyS Try.prog 95 [(0, 1), (1, 1)] := ⟨by kernel_rfl⟩
-- 96 weirgateref06.Reader
instance : TyAgg Try.prog 96 := ⟨by kernel_rfl⟩
instance : TyI Try.prog 96 2 32 ([.slice none 0 0, .bool false]) := ⟨by kernel_rfl, by kernel_rfl⟩
instance : TyF Try.prog 96 0 0 31 1 := ⟨by kernel_rfl⟩
instance : TyF Try.prog 96 1 1 4 1 := ⟨by kernel_rfl⟩
instance : TyS Try.prog 96 [(0, 1), (1, 1)] := ⟨by kernel_rfl⟩
-- 100 uint
instance : TyU Try.prog 100 (.int .u64) := ⟨by kernel_rfl⟩
instance : TyInt Try.prog 100 .u64 := ⟨by kernel_rfl⟩
instance : TyOne Try.prog 100 := ⟨by kernel_rfl⟩
instance : TyI Try.prog 100 1 8 ([.int .u64 0]) := ⟨by kernel_rfl, by kernel_rfl⟩
-- 116 *api.Config
instance : TyU Try.prog 116 (.pointer 26) := ⟨by kernel_rfl⟩
instance : TyPtr Try.prog 116 26 := ⟨by kernel_rfl⟩
instance : TyOne Try.prog 116 := ⟨by kernel_rfl⟩
instance : TyI Try.prog 116 1 8 ([.pointer none]) := ⟨by kernel_rfl, by kernel_rfl⟩
-- 131 *codec.list
instance : TyU Try.prog 131 (.pointer 80) := ⟨by kernel_rfl⟩
instance : TyPtr Try.prog 131 80 := ⟨by kernel_rfl⟩
instance : TyOne Try.prog 131 := ⟨by kernel_rfl⟩
instance : TyI Try.prog 131 1 8 ([.pointer none]) := ⟨by kernel_rfl, by kernel_rfl⟩
-- 132 *codec.rest
instance : TyU Try.prog 132 (.pointer 90) := ⟨by kernel_rfl⟩
instance : TyPtr Try.prog 132 90 := ⟨by kernel_rfl⟩
instance : TyOne Try.prog 132 := ⟨by kernel_rfl⟩
instance : TyI Try.prog 132 1 8 ([.pointer none]) := ⟨by kernel_rfl, by kernel_rfl⟩
-- 136 []int
instance : TyU Try.prog 136 (.slice 3) := ⟨by kernel_rfl⟩
instance : TySlice Try.prog 136 3 := ⟨by kernel_rfl⟩
instance : TyOne Try.prog 136 := ⟨by kernel_rfl⟩
instance : TyI Try.prog 136 1 24 ([.slice none 0 0]) := ⟨by kernel_rfl, by kernel_rfl⟩
-- 138 *api.PortCfg
instance : TyU Try.prog 138 (.pointer 70) := ⟨by kernel_rfl⟩
instance : TyPtr Try.prog 138 70 := ⟨by kernel_rfl⟩
instance : TyOne Try.prog 138 := ⟨by kernel_rfl⟩
instance : TyI Try.prog 138 1 8 ([.pointer none]) := ⟨by kernel_rfl, by kernel_rfl⟩
-- 147 *api.Vlan
instance : TyU Try.prog 147 (.pointer 66) := ⟨by kernel_rfl⟩
instance : TyPtr Try.prog 147 66 := ⟨by kernel_rfl⟩
instance : TyOne Try.prog 147 := ⟨by kernel_rfl⟩
instance : TyI Try.prog 147 1 8 ([.pointer none]) := ⟨by kernel_rfl, by kernel_rfl⟩
-- 148 *api.Static
instance : TyU Try.prog 148 (.pointer 72) := ⟨by kernel_rfl⟩
instance : TyPtr Try.prog 148 72 := ⟨by kernel_rfl⟩
instance : TyOne Try.prog 148 := ⟨by kernel_rfl⟩
instance : TyI Try.prog 148 1 8 ([.pointer none]) := ⟨by kernel_rfl, by kernel_rfl⟩
-- 161 *uint8
instance : TyU Try.prog 161 (.pointer 5) := ⟨by kernel_rfl⟩
instance : TyPtr Try.prog 161 5 := ⟨by kernel_rfl⟩
instance : TyOne Try.prog 161 := ⟨by kernel_rfl⟩
instance : TyI Try.prog 161 1 8 ([.pointer none]) := ⟨by kernel_rfl, by kernel_rfl⟩
end Go.Proofs.Ytpgpfcplchaleaa
