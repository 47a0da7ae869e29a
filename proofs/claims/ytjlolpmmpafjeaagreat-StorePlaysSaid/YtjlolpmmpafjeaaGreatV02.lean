import Derived.RangeFuncLeaves
import Derived.RangeFuncRecord
import Derived.Lib.Overlaps
import Derived.Test.YtjlolpmmpafjeaaGreatChecked
import Derived.Test.YtjlolpmmpafjeaaGreatV01
set_option linter.unusedVariables false
namespace Go.Proofs.YtjlolpmmpafjeaaGreat
open Slk


instance : TyU Tryz.prog 3 (.int .i64) := ⟨Z61⟩
instance : TyInt Tryz.prog 3 .i64 := ⟨Z61⟩
instance : TyOne Tryz.prog 3 := ⟨Z61⟩
instance : TyI Tryz.prog 3 1 8 ([.int .i64 0]) := ⟨Z61, Z61⟩

instance : TyBool Tryz.prog 4 := ⟨Z61⟩
instance : TyOne Tryz.prog 4 := ⟨Z61⟩
instance : TyI Tryz.prog 4 1 1 ([.bool false]) := ⟨Z61, Z61⟩

instance : TyU Tryz.prog 5 (.int .u8) := ⟨Z61⟩
instance : TyInt Tryz.prog 5 .u8 := ⟨Z61⟩
instance : TyOne Tryz.prog 5 := ⟨Z61⟩
instance : TyI Tryz.prog 5 1 1 ([.int .u8 0]) := ⟨Z61, Z61⟩

instance : TyStr Tryz.prog 9 := ⟨Z61⟩



instance : TySlice Tryz.prog 23 81 := ⟨Z61⟩
instance : TyOne Tryz.prog 23 := ⟨Z61⟩

instance : TySlice Tryz.prog 24 4 := ⟨Z61⟩
instance : TyOne Tryz.prog 24 := ⟨Z61⟩



instance : TyPtr Tryz.prog 29 107 := ⟨Z61⟩
instance : TyOne Tryz.prog 29 := ⟨Z61⟩


instance : TyPtr Tryz.prog 33 56 := ⟨Z61⟩
instance : TyOne Tryz.prog 33 := ⟨Z61⟩

instance : TyPtr Tryz.prog 36 120 := ⟨Z61⟩

instance : TyPtr Tryz.prog 39 52 := ⟨Z61⟩

instance : TyOne Tryz.prog 44 := ⟨Z61⟩

instance : TySlice Tryz.prog 45 83 := ⟨Z61⟩
instance : TyOne Tryz.prog 45 := ⟨Z61⟩
instance : TyI Tryz.prog 45 1 24 ([.slice none 0 0]) := ⟨Z61, Z61⟩

instance : TySlice Tryz.prog 46 147 := ⟨Z61⟩
instance : TyOne Tryz.prog 46 := ⟨Z61⟩
instance : TyI Tryz.prog 46 1 24 ([.slice none 0 0]) := ⟨Z61, Z61⟩

instance : TySlice Tryz.prog 47 149 := ⟨Z61⟩
instance : TyOne Tryz.prog 47 := ⟨Z61⟩
instance : TyI Tryz.prog 47 1 24 ([.slice none 0 0]) := ⟨Z61, Z61⟩


instance : TyAgg Tryz.prog 49 := ⟨Z61⟩
instance : TyI Tryz.prog 49 6 96 ([.int .i64 0, .int .i64 0, .int .i64 0, .slice none 0 0, .slice none 0 0, .slice none 0 0]) := ⟨Z61, Z61⟩
instance : TyF Tryz.prog 49 0 0 3 1 := ⟨Z61⟩
instance : TyF Tryz.prog 49 1 1 3 1 := ⟨Z61⟩
instance : TyF Tryz.prog 49 2 2 3 1 := ⟨Z61⟩
instance : TyF Tryz.prog 49 3 3 45 1 := ⟨Z61⟩
instance : TyF Tryz.prog 49 4 4 46 1 := ⟨Z61⟩
instance : TyF Tryz.prog 49 5 5 47 1 := ⟨Z61⟩
instance : TyS Tryz.prog 49 [(0, 1), (1, 1), (2, 1), (3, 1), (4, 1), (5, 1)] := ⟨Z61⟩

instance : TyU Tryz.prog 50 (.int .u32) := ⟨Z61⟩
instance : TyInt Tryz.prog 50 .u32 := ⟨Z61⟩
instance : TyOne Tryz.prog 50 := ⟨Z61⟩
instance : TyI Tryz.prog 50 1 4 ([.int .u32 0]) := ⟨Z61, Z61⟩


instance : TyI Tryz.prog 52 9 120 ([.pointer none, .pointer none, .int .i64 0, .int .i64 0, .int .i64 0, .slice none 0 0, .slice none 0 0, .slice none 0 0, .int .u32 0]) := ⟨Z61, Z61⟩
instance : TyF Tryz.prog 52 0 0 33 1 := ⟨Z61⟩
instance : TyF Tryz.prog 52 1 1 44 1 := ⟨Z61⟩
instance : TyF Tryz.prog 52 2 2 49 6 := ⟨Z61⟩
instance : TyF Tryz.prog 52 3 8 50 1 := ⟨Z61⟩
instance : TyS Tryz.prog 52 [(0, 1), (1, 1), (2, 6), (8, 1)] := ⟨Z61⟩

instance : TySlice Tryz.prog 53 61 := ⟨Z61⟩
instance : TyOne Tryz.prog 53 := ⟨Z61⟩
instance : TyI Tryz.prog 53 1 24 ([.slice none 0 0]) := ⟨Z61, Z61⟩

instance : TySlice Tryz.prog 54 63 := ⟨Z61⟩
instance : TyOne Tryz.prog 54 := ⟨Z61⟩
instance : TyI Tryz.prog 54 1 24 ([.slice none 0 0]) := ⟨Z61, Z61⟩


instance : TyI Tryz.prog 56 2 48 ([.slice none 0 0, .slice none 0 0]) := ⟨Z61, Z61⟩
instance : TyF Tryz.prog 56 0 0 53 1 := ⟨Z61⟩
instance : TyF Tryz.prog 56 1 1 54 1 := ⟨Z61⟩
instance : TyS Tryz.prog 56 [(0, 1), (1, 1)] := ⟨Z61⟩


instance : TyArr Tryz.prog 61 64 5 := ⟨Z61⟩
instance : TyAgg Tryz.prog 61 := ⟨Z61⟩
instance : TyI Tryz.prog 61 64 64 (List.replicate 64 (.int .u8 0)) := ⟨Z61, Z61⟩
instance : TyFlat Tryz.prog 61 (List.replicate 64 (.i .u8)) := ⟨by kernel_rfl, by kernel_rfl, by kernel_rfl, by kernel_rfl⟩


instance : TyI Tryz.prog 63 65 72 ([.int .i64 0] ++ List.replicate 64 (.int .u8 0)) := ⟨Z61, Z61⟩
instance : TyF Tryz.prog 63 0 0 3 1 := ⟨Z61⟩
instance : TyF Tryz.prog 63 1 1 61 64 := ⟨Z61⟩
instance : TyS Tryz.prog 63 [(0, 1), (1, 64)] := ⟨Z61⟩

instance : TyU Tryz.prog 69 (.slice 74) := ⟨Z61⟩
instance : TySlice Tryz.prog 69 74 := ⟨Z61⟩
instance : TyOne Tryz.prog 69 := ⟨Z61⟩
instance : TyI Tryz.prog 69 1 24 ([.slice none 0 0]) := ⟨Z61, Z61⟩


instance : TyAgg Tryz.prog 74 := ⟨Z61⟩
instance : TyI Tryz.prog 74 3 40 ([.int .i64 0, .int .i64 0, .slice none 0 0]) := ⟨Z61, Z61⟩
instance : TyF Tryz.prog 74 0 0 3 1 := ⟨Z61⟩
instance : TyF Tryz.prog 74 1 1 3 1 := ⟨Z61⟩
instance : TyF Tryz.prog 74 2 2 23 1 := ⟨Z61⟩

instance : TyU Tryz.prog 79 (.int .u64) := ⟨Z61⟩
instance : TyInt Tryz.prog 79 .u64 := ⟨Z61⟩
instance : TyOne Tryz.prog 79 := ⟨Z61⟩


instance : TyAgg Tryz.prog 81 := ⟨Z61⟩
instance : TyI Tryz.prog 81 7 48 ([.int .i64 0, .int .i64 0, .int .i64 0, .int .i64 0, .int .u8 0, .int .u8 0, .int .u64 0]) := ⟨Z61, Z61⟩
instance : TyF Tryz.prog 81 0 0 3 1 := ⟨Z61⟩
instance : TyF Tryz.prog 81 1 1 3 1 := ⟨Z61⟩
instance : TyF Tryz.prog 81 2 2 3 1 := ⟨Z61⟩
instance : TyF Tryz.prog 81 3 3 3 1 := ⟨Z61⟩
instance : TyF Tryz.prog 81 4 4 5 1 := ⟨Z61⟩
instance : TyF Tryz.prog 81 5 5 5 1 := ⟨Z61⟩
instance : TyF Tryz.prog 81 6 6 79 1 := ⟨Z61⟩
instance : TyS Tryz.prog 81 [(0, 1), (1, 1), (2, 1), (3, 1), (4, 1), (5, 1), (6, 1)] := ⟨Z61⟩


instance : TyAgg Tryz.prog 83 := ⟨Z61⟩
instance : TyI Tryz.prog 83 3 16 ([.bool false, .int .u32 0, .int .i64 0]) := ⟨Z61, Z61⟩
instance : TyFlat Tryz.prog 83 ([.b, .i .u32, .i .i64]) := ⟨by kernel_rfl, by kernel_rfl, by kernel_rfl, by kernel_rfl⟩
instance : TyF Tryz.prog 83 0 0 4 1 := ⟨Z61⟩
instance : TyF Tryz.prog 83 1 1 50 1 := ⟨Z61⟩
instance : TyF Tryz.prog 83 2 2 3 1 := ⟨Z61⟩
instance : TyS Tryz.prog 83 [(0, 1), (1, 1), (2, 1)] := ⟨Z61⟩






instance : TySlice Tryz.prog 105 143 := ⟨Z61⟩
instance : TyOne Tryz.prog 105 := ⟨Z61⟩
instance : TyI Tryz.prog 105 1 24 ([.slice none 0 0]) := ⟨Z61, Z61⟩


instance : TyI Tryz.prog 107 2 48 ([.slice none 0 0, .slice none 0 0]) := ⟨Z61, Z61⟩
instance : TyF Tryz.prog 107 0 0 53 1 := ⟨Z61⟩
instance : TyF Tryz.prog 107 1 1 105 1 := ⟨Z61⟩
instance : TyS Tryz.prog 107 [(0, 1), (1, 1)] := ⟨Z61⟩

instance : TySlice Tryz.prog 108 5 := ⟨Z61⟩
instance : TyOne Tryz.prog 108 := ⟨Z61⟩
instance : TyI Tryz.prog 108 1 24 ([.slice none 0 0]) := ⟨Z61, Z61⟩

instance : TyPtr Tryz.prog 113 169 := ⟨Z61⟩
instance : TyOne Tryz.prog 113 := ⟨Z61⟩

instance : TySlice Tryz.prog 117 108 := ⟨Z61⟩
instance : TyOne Tryz.prog 117 := ⟨Z61⟩
instance : TyI Tryz.prog 117 1 24 ([.slice none 0 0]) := ⟨Z61, Z61⟩


instance : TyI Tryz.prog 120 9 120 ([.pointer none, .pointer none, .int .i64 0, .int .i64 0, .int .i64 0, .slice none 0 0, .slice none 0 0, .slice none 0 0, .int .u32 0]) := ⟨Z61, Z61⟩
instance : TyF Tryz.prog 120 0 0 113 1 := ⟨Z61⟩
instance : TyF Tryz.prog 120 1 1 29 1 := ⟨Z61⟩
instance : TyF Tryz.prog 120 2 2 49 6 := ⟨Z61⟩
instance : TyF Tryz.prog 120 3 8 50 1 := ⟨Z61⟩
instance : TyS Tryz.prog 120 [(0, 1), (1, 1), (2, 6), (8, 1)] := ⟨Z61⟩


instance : TyAgg Tryz.prog 122 := ⟨Z61⟩
instance : TyI Tryz.prog 122 4 48 ([.int .u32 0, .slice none 0 0, .int .i64 0, .int .i64 0]) := ⟨Z61, Z61⟩
instance : TyF Tryz.prog 122 0 0 50 1 := ⟨Z61⟩
instance : TyF Tryz.prog 122 1 1 108 1 := ⟨Z61⟩
instance : TyF Tryz.prog 122 2 2 3 1 := ⟨Z61⟩
instance : TyF Tryz.prog 122 3 3 3 1 := ⟨Z61⟩
instance : TyS Tryz.prog 122 [(0, 1), (1, 1), (2, 1), (3, 1)] := ⟨Z61⟩


instance : TyI Tryz.prog 131 6 64 ([.pointer none, .int .i64 0, .int .i64 0, .int .u32 0, .slice none 0 0, .int .i64 0]) := ⟨Z61, Z61⟩
instance : TyF Tryz.prog 131 0 0 33 1 := ⟨Z61⟩
instance : TyF Tryz.prog 131 1 1 3 1 := ⟨Z61⟩
instance : TyF Tryz.prog 131 2 2 3 1 := ⟨Z61⟩
instance : TyF Tryz.prog 131 3 3 50 1 := ⟨Z61⟩
instance : TyF Tryz.prog 131 4 4 117 1 := ⟨Z61⟩
instance : TyF Tryz.prog 131 5 5 3 1 := ⟨Z61⟩
instance : TyS Tryz.prog 131 [(0, 1), (1, 1), (2, 1), (3, 1), (4, 1), (5, 1)] := ⟨Z61⟩



instance : TyAgg Tryz.prog 143 := ⟨Z61⟩
instance : TyI Tryz.prog 143 65 72 ([.int .i64 0] ++ List.replicate 64 (.int .u8 0)) := ⟨Z61, Z61⟩
instance : TyF Tryz.prog 143 0 0 3 1 := ⟨Z61⟩
instance : TyF Tryz.prog 143 1 1 61 64 := ⟨Z61⟩
instance : TyS Tryz.prog 143 [(0, 1), (1, 64)] := ⟨Z61⟩


instance : TyAgg Tryz.prog 147 := ⟨Z61⟩
instance : TyI Tryz.prog 147 3 16 ([.int .i64 0, .int .u8 0, .int .u8 0]) := ⟨Z61, Z61⟩
instance : TyFlat Tryz.prog 147 ([.i .i64, .i .u8, .i .u8]) := ⟨by kernel_rfl, by kernel_rfl, by kernel_rfl, by kernel_rfl⟩
instance : TyF Tryz.prog 147 0 0 3 1 := ⟨Z61⟩
instance : TyF Tryz.prog 147 1 1 5 1 := ⟨Z61⟩
instance : TyF Tryz.prog 147 2 2 5 1 := ⟨Z61⟩
instance : TyS Tryz.prog 147 [(0, 1), (1, 1), (2, 1)] := ⟨Z61⟩


instance : TyAgg Tryz.prog 149 := ⟨Z61⟩
instance : TyI Tryz.prog 149 3 24 ([.int .u64 0, .int .i64 0, .int .i64 0]) := ⟨Z61, Z61⟩
instance : TyFlat Tryz.prog 149 ([.i .u64, .i .i64, .i .i64]) := ⟨by kernel_rfl, by kernel_rfl, by kernel_rfl, by kernel_rfl⟩
instance : TyF Tryz.prog 149 0 0 79 1 := ⟨Z61⟩
instance : TyF Tryz.prog 149 1 1 3 1 := ⟨Z61⟩
instance : TyF Tryz.prog 149 2 2 3 1 := ⟨Z61⟩
instance : TyS Tryz.prog 149 [(0, 1), (1, 1), (2, 1)] := ⟨Z61⟩

instance : TyU Tryz.prog 150 (.int .u64) := ⟨Z61⟩
instance : TyInt Tryz.prog 150 .u64 := ⟨Z61⟩






instance : TyI Tryz.prog 163 2 32 ([.slice none 0 0, .bool false]) := ⟨Z61, Z61⟩
instance : TyF Tryz.prog 163 0 0 108 1 := ⟨Z61⟩
instance : TyF Tryz.prog 163 1 1 4 1 := ⟨Z61⟩
instance : TyS Tryz.prog 163 [(0, 1), (1, 1)] := ⟨Z61⟩


instance : TyI Tryz.prog 165 2 32 ([.slice none 0 0, .bool false]) := ⟨Z61, Z61⟩
instance : TyF Tryz.prog 165 0 0 163 2 := ⟨Z61⟩
instance : TyS Tryz.prog 165 [(0, 2)] := ⟨Z61⟩


instance : TyAgg Tryz.prog 167 := ⟨Z61⟩
instance : TyI Tryz.prog 167 3 24 ([.pointer none, .int .i64 0, .int .i64 0]) := ⟨Z61, Z61⟩
instance : TyF Tryz.prog 167 0 0 29 1 := ⟨Z61⟩
instance : TyF Tryz.prog 167 1 1 3 1 := ⟨Z61⟩
instance : TyF Tryz.prog 167 2 2 3 1 := ⟨Z61⟩
instance : TyS Tryz.prog 167 [(0, 1), (1, 1), (2, 1)] := ⟨Z61⟩


instance : TyI Tryz.prog 169 6 64 ([.pointer none, .int .i64 0, .int .i64 0, .int .u32 0, .int .i64 0, .slice none 0 0]) := ⟨Z61, Z61⟩
instance : TyF Tryz.prog 169 0 0 167 3 := ⟨Z61⟩
instance : TyF Tryz.prog 169 1 3 50 1 := ⟨Z61⟩
instance : TyF Tryz.prog 169 2 4 3 1 := ⟨Z61⟩
instance : TyF Tryz.prog 169 3 5 117 1 := ⟨Z61⟩
instance : TyS Tryz.prog 169 [(0, 3), (3, 1), (4, 1), (5, 1)] := ⟨Z61⟩


instance : TyAgg Tryz.prog 172 := ⟨Z61⟩
instance : TyI Tryz.prog 172 4 40 ([.int .i64 0, .int .u32 0, .int .u32 0, .slice none 0 0]) := ⟨Z61, Z61⟩
instance : TyF Tryz.prog 172 0 0 3 1 := ⟨Z61⟩
instance : TyF Tryz.prog 172 1 1 50 1 := ⟨Z61⟩
instance : TyF Tryz.prog 172 2 2 50 1 := ⟨Z61⟩
instance : TyF Tryz.prog 172 3 3 108 1 := ⟨Z61⟩
instance : TyS Tryz.prog 172 [(0, 1), (1, 1), (2, 1), (3, 1)] := ⟨Z61⟩


instance : TyAgg Tryz.prog 183 := ⟨Z61⟩
instance : TyI Tryz.prog 183 3 40 ([.slice none 0 0, .int .i64 0, .int .i64 0]) := ⟨Z61, Z61⟩
instance : TyF Tryz.prog 183 0 0 53 1 := ⟨Z61⟩
instance : TyF Tryz.prog 183 1 1 3 1 := ⟨Z61⟩
instance : TyF Tryz.prog 183 2 2 3 1 := ⟨Z61⟩
instance : TyS Tryz.prog 183 [(0, 1), (1, 1), (2, 1)] := ⟨Z61⟩



instance : TyI Tryz.prog 188 2 32 ([.slice none 0 0, .bool false]) := ⟨Z61, Z61⟩
instance : TyF Tryz.prog 188 0 0 108 1 := ⟨Z61⟩
instance : TyF Tryz.prog 188 1 1 4 1 := ⟨Z61⟩
instance : TyS Tryz.prog 188 [(0, 1), (1, 1)] := ⟨Z61⟩

instance : TyAgg Tryz.prog 192 := ⟨Z61⟩
instance : TyI Tryz.prog 192 4 40 ([.int .i64 0, .int .u32 0, .int .u32 0, .slice none 0 0]) := ⟨Z61, Z61⟩
instance : TyF Tryz.prog 192 0 0 3 1 := ⟨Z61⟩
instance : TyF Tryz.prog 192 1 1 50 1 := ⟨Z61⟩
instance : TyF Tryz.prog 192 2 2 50 1 := ⟨Z61⟩
instance : TyF Tryz.prog 192 3 3 108 1 := ⟨Z61⟩
instance : TyS Tryz.prog 192 [(0, 1), (1, 1), (2, 1), (3, 1)] := ⟨Z61⟩


instance : TyAgg Tryz.prog 194 := ⟨Z61⟩
instance : TyI Tryz.prog 194 6 56 ([.int .i64 0, .int .u32 0, .int .u32 0, .slice none 0 0, .int .i64 0, .int .i64 0]) := ⟨Z61, Z61⟩
instance : TyF Tryz.prog 194 0 0 192 4 := ⟨Z61⟩
instance : TyF Tryz.prog 194 1 4 3 1 := ⟨Z61⟩
instance : TyF Tryz.prog 194 2 5 3 1 := ⟨Z61⟩
instance : TyS Tryz.prog 194 [(0, 4), (4, 1), (5, 1)] := ⟨Z61⟩



instance : TyF Tryz.prog 201 0 0 108 1 := ⟨Z61⟩


instance : TyI Tryz.prog 203 1 24 ([.slice none 0 0]) := ⟨Z61, Z61⟩
instance : TyF Tryz.prog 203 0 0 201 1 := ⟨Z61⟩
instance : TyS Tryz.prog 203 [(0, 1)] := ⟨Z61⟩

instance : TyPtr Tryz.prog 220 223 := ⟨Z61⟩


instance : TyI Tryz.prog 223 5 48 ([.int .i64 0, .int .u32 0, .int .u32 0, .slice none 0 0, .int .i64 0]) := ⟨Z61, Z61⟩
instance : TyF Tryz.prog 223 0 0 172 4 := ⟨Z61⟩
instance : TyF Tryz.prog 223 1 4 3 1 := ⟨Z61⟩
instance : TyS Tryz.prog 223 [(0, 4), (4, 1)] := ⟨Z61⟩


instance : TyI Tryz.prog 244 3 16 ([.int .i64 0, .int .u32 0, .int .u32 0]) := ⟨Z61, Z61⟩
instance : TyF Tryz.prog 244 0 0 3 1 := ⟨Z61⟩
instance : TyF Tryz.prog 244 1 1 50 1 := ⟨Z61⟩
instance : TyF Tryz.prog 244 2 2 50 1 := ⟨Z61⟩
instance : TyS Tryz.prog 244 [(0, 1), (1, 1), (2, 1)] := ⟨Z61⟩


instance : TyI Tryz.prog 246 4 40 ([.int .i64 0, .int .u32 0, .int .u32 0, .slice none 0 0]) := ⟨Z61, Z61⟩
instance : TyF Tryz.prog 246 0 0 244 3 := ⟨Z61⟩
instance : TyF Tryz.prog 246 1 3 108 1 := ⟨Z61⟩
instance : TyS Tryz.prog 246 [(0, 3), (3, 1)] := ⟨Z61⟩




instance : TySlice Tryz.prog 268 3 := ⟨Z61⟩


instance : TyI Tryz.prog 278 2 8 ([.int .u32 0, .int .u32 0]) := ⟨Z61, Z61⟩
instance : TyF Tryz.prog 278 0 0 50 1 := ⟨Z61⟩
instance : TyF Tryz.prog 278 1 1 50 1 := ⟨Z61⟩
instance : TyS Tryz.prog 278 [(0, 1), (1, 1)] := ⟨Z61⟩




end Go.Proofs.YtjlolpmmpafjeaaGreat

set_option linter.unusedVariables false
set_option linter.unusedSimpArgs false
namespace Slk
open Go

theorem Ent.append_l {a b : List HProp} : Ent (a ++ b) a := fun x hx => by
 obtain ⟨h1, h2, p, b, c, d, e⟩ := stars_append.1 hx
 exact stars_mono d p
section
variable {P : Program} {Q : Post} {D : Nat → Prop} {w0 : World} {n : Nat} {env : Slots} {l r : List HProp} {ops : Array Oper}
end
section
variable {α : Type} [Rep α] {l r : List HProp} {xs ys : List α} {cs ds : List Value} {A : Option Addr} {t : TypeId} {n cap : Nat}
end
theorem Ent.pure_cons {p : Prop} {l l' : List HProp} (h : p) (k : Ent l l') : Ent l (pureP p :: l') := fun x hx => stars_pure.2 ⟨h, k _ hx⟩
theorem SrcIs.rowCut {D : Nat → Prop} {w0 : World} {l r : List HProp} {A : Option Addr} {t : TypeId} {sz n cap : Nat} {cs : List Value} [h : PickR l A t sz n cap cs r] (hA : Slk.isA A) (lo m : Nat) (hm : lo + m ≤ n) (hl : cs.length = n * sz) (hc : n ≤ cap) {news : List Value} (hnew : news = (cs.drop (lo * sz)).take (m * sz)) :
  SrcIs D w0 l (if cap = lo then A else A.map (·.add (lo * sz))) news := by
 subst hnew
 refine SrcIs.ofImp h.out (fun x hx => rdA_cut (row_rd _ hx) cap lo m sz ?_ Z64) (fun _ => ?_)
 ·rw [hl]; exact Nat.mul_le_mul_right _ hm
 ·split
  ·exact hA
  ·rw [hA]; simp [add_lit', Slk.isA]
end Slk

set_option linter.unusedVariables false
set_option linter.unusedSimpArgs false
namespace Slk
open Go
section
variable {P : Program} {D : Nat → Prop} {w0 : World} {env : Slots} {l : List HProp} {dst : Option Tmp} {ty : TypeId} {pos : String} {after : Array Edge} {g : Option (Nat × Bool)} {x y : Operand} {t t' : TypeId}
end
section
variable {P : Program} {D : Nat → Prop} {w0 : World} {env : Slots} {l : List HProp} {dst : Option Tmp} {ty : TypeId} {pos : String} {after : Array Edge} {g : Option (Nat × Bool)} {x y : Operand} {t t' : TypeId}
theorem ov_remN {k : IntKind} {a b : Nat} (hx : evalO env x = some (.int k (a : Int))) (hy : evalO env y = some (.int k (b : Int))) (hb : 0 < b) : OpVal P D w0 env l ⟨dst, .binOp .rem t x y t', ty, pos, after, g⟩ (.int k ((a % b : Nat) : Int)) :=
 ov_rem hx hy Z64 (by rw [Int.tmod_eq_emod_of_nonneg Z64]; rfl)
theorem ov_remE {k : IntKind} {a b m : Nat} (hx : evalO env x = some (.int k (a : Int))) (hy : evalO env y = some (.int k (b : Int))) (hb : 0 < b) (hm : m = a % b) : OpVal P D w0 env l ⟨dst, .binOp .rem t x y t', ty, pos, after, g⟩ (.int k (m : Int)) := by subst hm; exact ov_remN hx hy hb
end
section
variable {P : Program} {Q : Post} {D : Nat → Prop} {w0 : World} {n : Nat} {env : Slots} {l : List HProp} {ops : Array Oper}
end
end Slk

set_option linter.unusedVariables false
set_option linter.unusedSimpArgs false
namespace Slk
open Go
section
variable {P : Program} {Q : Post} {D : Nat → Prop} {w0 : World} {n : Nat} {env : Slots} {l : List HProp} {ops : Array Oper} {r : List Oper}
theorem hl_callv {d f : Nat} {fx : Operand} {fs cs : List Value} {args : List Operand} {ats : Array TypeId} {ty : TypeId} {pos : String} {after : Array Edge} {vs : List Value} {σ : Type} {v : σ → Value} {l' : σ → List HProp} (hf : evalO env fx = some (.func (.func f) fs.toArray cs.toArray)) (hcf : ∀ args w, (callFunc f args).run P w = .ok (.enter f args) w)
  (hv : evalL env args = some vs) (hn : Nat.blt d n = true) (hc : ∀ w, Own D w0 w l → Calls P f (fs ++ vs ++ cs).toArray w fun e w' => ∃ s, e = .returned (v s) ∧ Own D w0 w' (l' s))
  (k : ∀ s, HL P ops Q D w0 n ((d, v s) :: env) (l' s) r) : HL P ops Q D w0 n env l (⟨some d, .call ⟨.value fx, args.toArray, ats⟩, ty, pos, after, none⟩ :: r) := .mk fun a w S => by
 refine wpList_plain rfl fun K hK => ?_
 unfold Oper.wp
 have hrun : (execOp a.eval ⟨some d, .call ⟨.value fx, args.toArray, ats⟩, ty, pos, after, none⟩).run P w = .ok (.enter f (fs ++ vs ++ cs).toArray) w := by
  simp [execOp, resolve, Deferred.ofValue, S.env.eval hf, invoke, S.env.evals hv, hcf]
 rw [hrun, Oper.upon_enter]
 refine (hc w S.own).mono fun e w' ⟨s, he, H⟩ => ?_
 subst he
 exact hK _ _ ((k s).run _ w' ⟨S.env.put hn _, H⟩)
theorem hl_cv {d f : Nat} {fx : Operand} {fs cs : List Value} {args : List Operand} {ats : Array TypeId} {ty : TypeId} {pos : String} {after : Array Edge} {vs : List Value} {v : Value} {l' : List HProp} (hf : evalO env fx = some (.func (.func f) fs.toArray cs.toArray)) (hcf : ∀ args w, (callFunc f args).run P w = .ok (.enter f args) w)
  (hv : evalL env args = some vs) (hn : Nat.blt d n = true) (hc : ∀ w, Own D w0 w l → Calls P f (fs ++ vs ++ cs).toArray w fun e w' => e = .returned v ∧ Own D w0 w' l')
  (k : HL P ops Q D w0 n ((d, v) :: env) l' r) : HL P ops Q D w0 n env l (⟨some d, .call ⟨.value fx, args.toArray, ats⟩, ty, pos, after, none⟩ :: r) :=
 hl_callv (σ := Unit) (v := fun _ => v) (l' := fun _ => l') hf hcf hv hn (fun w H => (hc w H).mono fun e w' h => ⟨(), h⟩) fun _ => k
theorem res_cell {fn : Func} {ty : TypeId} {s bb b : Nat} {z cs : List Value} {et : TypeId} {rr : List HProp} [h : TyAgg P ty] [hs : TyI P ty s bb z] [hp : PickB l b et cs rr] (hl : cs.length = s) {w : World} (H : Own D w0 w l) : (loadVar ty ⟨b, 0, none⟩).run P w = .ok (.agg cs.toArray) w :=
 run_loadVar_agg hl fun i v hi => by
  rw [Nat.zero_add]
  exact (CellIs.blk (D := D) (w0 := w0) (l := l) (b := b) (off := i) hi) w H
theorem results_c {fn : Func} {R : Ending → World → Prop} {e : Exit} (he : e = .normal ∨ e = .ret) {t : Nat} {ty : TypeId} {s bb b : Nat} {z cs : List Value} {et : TypeId} {rr : List HProp} [h : TyAgg P ty] [hs : TyI P ty s bb z] (hr : fn.results = #[.cell t ty]) (hv : Slots.get env t = some (.pointer (some ⟨b, 0, none⟩))) [hp : PickB l b et cs rr] (hl : cs.length = s)
  (k : ∀ w, Own D w0 w l → R (.returned (.agg cs.toArray)) w) : HX (bodyPost P fn R) e D w0 n env l := .mk fun a w S => by
 have h1 := res_cell (fn := fn) (P := P) (ty := ty) (b := b) hl S.own
 have k1 : (results fn a.tmps).run P w = .ok (.agg cs.toArray) w := by simp [results, hr, S.env.get _ _ hv, asAddr, h1]
 rcases he with rfl | rfl <;> exact ⟨S.env.defers, _, k1, k w S.own⟩
theorem results_ct {fn : Func} {R : Ending → World → Prop} {e : Exit} (he : e = .normal ∨ e = .ret) {t u : Nat} {ty : TypeId} {s bb b : Nat} {z cs : List Value} {et : TypeId} {rr : List HProp} {y : Value} [h : TyAgg P ty] [hs : TyI P ty s bb z] (hr : fn.results = #[.cell t ty, .tmp u]) (hv : Slots.get env t = some (.pointer (some ⟨b, 0, none⟩))) [hp : PickB l b et cs rr] (hl : cs.length = s) (hy : Slots.get env u = some y)
  (k : ∀ w, Own D w0 w l → R (.returned (.tuple #[.agg cs.toArray, y])) w) : HX (bodyPost P fn R) e D w0 n env l := .mk fun a w S => by
 have h1 := res_cell (fn := fn) (P := P) (ty := ty) (b := b) hl S.own
 have k1 : (results fn a.tmps).run P w = .ok (.tuple #[.agg cs.toArray, y]) w := by simp [results, hr, S.env.get _ _ hv, S.env.get _ _ hy, asAddr, h1]
 rcases he with rfl | rfl <;> exact ⟨S.env.defers, _, k1, k w S.own⟩
theorem results_ctt {fn : Func} {R : Ending → World → Prop} {e : Exit} (he : e = .normal ∨ e = .ret) {t u u2 : Nat} {ty : TypeId} {s bb b : Nat} {z cs : List Value} {et : TypeId} {rr : List HProp} {y y2 : Value} [h : TyAgg P ty] [hs : TyI P ty s bb z] (hr : fn.results = #[.cell t ty, .tmp u, .tmp u2]) (hv : Slots.get env t = some (.pointer (some ⟨b, 0, none⟩))) [hp : PickB l b et cs rr] (hl : cs.length = s) (hy : Slots.get env u = some y) (hy2 : Slots.get env u2 = some y2)
  (k : ∀ w, Own D w0 w l → R (.returned (.tuple #[.agg cs.toArray, y, y2])) w) : HX (bodyPost P fn R) e D w0 n env l := .mk fun a w S => by
 have h1 := res_cell (fn := fn) (P := P) (ty := ty) (b := b) hl S.own
 have k1 : (results fn a.tmps).run P w = .ok (.tuple #[.agg cs.toArray, y, y2]) w := by simp [results, hr, S.env.get _ _ hv, S.env.get _ _ hy, S.env.get _ _ hy2, asAddr, h1]
 rcases he with rfl | rfl <;> exact ⟨S.env.defers, _, k1, k w S.own⟩
end
section
variable {P : Program} {D : Nat → Prop} {w0 : World} {env : Slots} {l : List HProp} {dst : Option Tmp} {ty : TypeId} {pos : String} {after : Array Edge} {g : Option (Nat × Bool)}
theorem on_boxG {e : TypeId} {x : Operand} {cs : List Value} (hx : evalO env x = some (.agg cs.toArray)) : OpNew P D w0 env l ⟨dst, .box e x, ty, pos, after, g⟩ (fun b : Nat => .pointer (some ⟨b, 0, none⟩)) (fun b => blk b e cs :: l) := on_box hx
theorem ov_loadW {t et : TypeId} {s bb : Nat} {z : List Value} [h : TyAgg P t] [hs : TyI P t s bb z] {x : Operand} {b : Nat} {cs : List Value} {r : List HProp} (hx : evalO env x = some (.pointer (some ⟨b, 0, none⟩))) [hp : PickB l b et cs r] (hl : cs.length = s) : OpVal P D w0 env l ⟨dst, .load t x, ty, pos, after, g⟩ (.agg cs.toArray) :=
 ov_loadG hx hl (CellsAre.blk (fun i v hv => by rw [Nat.zero_add]; exact hv))
theorem setSeg_all {cs vs : List Value} (h : vs.length = cs.length) : setSeg cs 0 vs = vs := by
 have := setSeg_mid [] cs [] vs 0 rfl h
 simpa using this
theorem on_storeW {t et : TypeId} {s bb : Nat} {z : List Value} [h : TyI P t s bb z] {x y : Operand} {b : Nat} {cs vs : List Value} {r : List HProp} (hx : evalO env x = some (.pointer (some ⟨b, 0, none⟩))) (hy : evalO env y = some (.agg vs.toArray)) [hp : PickB l b et cs r] (hl : vs.length = s) (hc : cs.length = s) (h1 : ∀ v ∈ vs, v.oneCell' = true) :
  OpNew P D w0 env l ⟨dst, .store t x y, ty, pos, after, g⟩ (fun _ : Unit => undef) (fun _ => blk b et vs :: r) := by
 have := on_storeG (P := P) (D := D) (w0 := w0) (dst := dst) (ty := ty) (pos := pos) (after := after) (g := g) (t := t) hx hy (hp := hp) hl Z64 h1
 rw [setSeg_all Z64] at this
 exact this
theorem on_storeE {t et : TypeId} {bb : Nat} {z : List Value} [h : TyI P t 1 bb z] {x y : Operand} {b off : Nat} {cs : List Value} {r : List HProp} {v : Value} (cs' : List Value) (hx : evalO env x = some (.pointer (some ⟨b, off, none⟩))) (hy : evalO env y = some v) [hp : PickB l b et cs r] (ho : off < cs.length) (h1 : v.oneCell' = true) (hn : cs.set off v = cs') :
  OpNew P D w0 env l ⟨dst, .store t x y, ty, pos, after, g⟩ (fun _ : Unit => undef) (fun _ => blk b et cs' :: r) := by subst hn; exact on_store hx hy ho h1
theorem on_storeGE {t et : TypeId} {s bb : Nat} {z : List Value} [h : TyI P t s bb z] {x y : Operand} {b off : Nat} {cs vs : List Value} {r : List HProp} (cs' : List Value) (hx : evalO env x = some (.pointer (some ⟨b, off, none⟩))) (hy : evalO env y = some (.agg vs.toArray)) [hp : PickB l b et cs r] (hl : vs.length = s) (ho : off + vs.length ≤ cs.length) (h1 : ∀ v ∈ vs, v.oneCell' = true) (hn : setSeg cs off vs = cs') :
  OpNew P D w0 env l ⟨dst, .store t x y, ty, pos, after, g⟩ (fun _ : Unit => undef) (fun _ => blk b et cs' :: r) := by subst hn; exact on_storeG hx hy hl ho h1
theorem on_storeRE {t e : TypeId} {bb sz n cap : Nat} {z : List Value} [h : TyI P t 1 bb z] {x y : Operand} {A : Option Addr} {o : Nat} {cs : List Value} {r : List HProp} {v : Value} (cs' : List Value) (hx : evalO env x = some (.pointer (some ⟨ab A, ao A + o, none⟩))) (hy : evalO env y = some v) [hp : PickR l A e sz n cap cs r] (ho : o < cs.length) (h1 : v.oneCell' = true) (hn : cs.set o v = cs') :
  OpNew P D w0 env l ⟨dst, .store t x y, ty, pos, after, g⟩ (fun _ : Unit => undef) (fun _ => row A e sz n cap cs' :: r) := by subst hn; exact on_storeR hx hy ho h1
end
section
variable {α β : Type} {f : α → List β} {sz : Nat}
theorem flat_len (hf : ∀ x, (f x).length = sz) : ∀ (xs : List α), (xs.flatMap f).length = xs.length * sz
 | [] => by simp
 | x :: r => by rw [List.flatMap_cons, List.length_append, hf, flat_len hf r, List.length_cons, Nat.add_mul]; omega
theorem flat_at (hf : ∀ x, (f x).length = sz) : ∀ (xs : List α) (i j : Nat) (hi : i < xs.length), j < sz → (xs.flatMap f)[i * sz + j]? = (f xs[i])[j]?
 | x :: r, 0, j, _, hj => by rw [List.flatMap_cons, Nat.zero_mul, Nat.zero_add, List.getElem?_append_left (by rw [hf]; exact hj)]; rfl
 | x :: r, i + 1, j, hi, hj => by
  rw [List.flatMap_cons, List.getElem?_append_right Z42, hf, show (i + 1) * sz + j - sz = i * sz + j by rw [Nat.add_mul]; omega]
  exact flat_at hf r i j (by simpa using hi) hj
theorem flat_set {f : α → List Value} (hf : ∀ x, (f x).length = sz) : ∀ (xs : List α) (i : Nat) (y : α), i < xs.length → setSeg (xs.flatMap f) (i * sz) (f y) = (xs.set i y).flatMap f
 | x :: r, 0, y, _ => by
  rw [List.flatMap_cons, List.set_cons_zero, List.flatMap_cons, Nat.zero_mul]
  have := setSeg_mid [] (f x) (r.flatMap f) (f y) 0 rfl (by rw [hf, hf])
  simpa using this
 | x :: r, i + 1, y, hi => by
  rw [List.flatMap_cons, List.set_cons_succ, List.flatMap_cons, ← flat_set hf r i y (by simpa using hi)]
  have := setSeg_in (f x) (r.flatMap f) [] (f y) (i * sz) (by rw [flat_len hf, hf]; have : i < r.length := by simpa using hi
                                                              have := Nat.mul_le_mul_right sz (show i + 1 ≤ r.length by omega); rw [Nat.add_mul] at this; omega)
  rw [hf, List.append_nil, List.append_nil] at this
  rw [show (i + 1) * sz = sz + i * sz by rw [Nat.add_mul]; omega]
  exact this
end
theorem CellsAre.row {D : Nat → Prop} {w0 : World} {l r : List HProp} {A : Option Addr} {t : TypeId} {sz n cap : Nat} {cs : List Value} [h : PickR l A t sz n cap cs r] (hA : Slk.isA A) {off : Nat} {vs : List Value} (hv : ∀ i v, vs[i]? = some v → cs[off + i]? = some v) : CellsAre D w0 l (ab A) (ao A + off) vs := fun w H i v hi => by
 rw [Nat.add_assoc]
 exact CellIs.row (D := D) (w0 := w0) (l := l) hA (hv i v hi) w H
theorem CellsAre.flat {D : Nat → Prop} {w0 : World} {l r : List HProp} {α : Type} {f : α → List Value} {sz : Nat} (hf : ∀ x, (f x).length = sz) {xs : List α} {A : Option Addr} {t : TypeId} {n cap : Nat} [h : PickR l A t sz n cap (xs.flatMap f) r] (hA : Slk.isA A) {i : Nat} (hi : i < xs.length) : CellsAre D w0 l (ab A) (ao A + i * sz) (f xs[i]) :=
 CellsAre.row hA fun j v hj => by
  have : j < sz := by
   rcases Nat.lt_or_ge j sz with h | h
   ·exact h
   ·rw [List.getElem?_eq_none (by rw [hf]; exact h)] at hj; cases hj
  rw [flat_at hf xs i j hi this]; exact hj
theorem CellsAre.sub {D : Nat → Prop} {w0 : World} {l : List HProp} {b off o : Nat} {cs vs : List Value} (h : CellsAre D w0 l b off cs) (hv : ∀ i v, vs[i]? = some v → cs[o + i]? = some v) : CellsAre D w0 l b (off + o) vs := fun w H i v hi => by
 rw [Nat.add_assoc]; exact h w H _ v (hv i v hi)
theorem Old.blk {D : Nat → Prop} {w0 : World} {b : Nat} {t : TypeId} {cs : List Value} (h : Old D w0 (Slk.blk b t cs)) : OldCells D w0 b 0 cs := by
 obtain ⟨x, hx, fr, h1, h2⟩ := h
 obtain ⟨k1, k2⟩ := hx b _ h1
 refine ⟨k2, (Array.getElem?_eq_some_iff.1 k1).1, fun i v hv => ?_⟩
 simp [World.cell?, k1, hv]
theorem stars_blk {l r : List HProp} {b : Nat} {t : TypeId} {cs : List Value} [h : PickB l b t cs r] {y : Heap} (hs : stars l y) : Slk.blk b t cs y := by
 obtain ⟨h1, h2, ⟨fr, a, c⟩, _, _, s1, _⟩ := stars_perm h.out hs
 exact ⟨fr, s1 _ _ a, c⟩
end Slk

set_option linter.unusedVariables false
set_option linter.unusedSimpArgs false
namespace Slk
open Go
def ob (b : Nat) (o : Obj) : HProp := fun h => h b = some o
theorem Own.allocO {D : Nat → Prop} {w0 w : World} {l : List HProp} (H : Own D w0 w l) (o' : Obj) : Own D w0 (w.alloc o') (ob w.heap.size o' :: l) := by
 obtain ⟨h, a, b⟩ := H.own
 have hn : ∀ x o, h x = some o → x < w.heap.size := fun x o e => (Array.getElem?_eq_some_iff.1 (a x o e).1).1
 have hs : h w.heap.size = none := by
  cases e : h w.heap.size with
  | none => rfl
  | some o => exact absurd (hn _ _ e) (Nat.lt_irrefl _)
 refine ⟨H.os, H.tape, H.output, by have := H.size; simp; omega, fun x hx hd => ?_, fun x => if x = w.heap.size then some o' else h x, fun x o e => ?_, ?_⟩
 ·rw [Go.RowKit.Below.heap_alloc _ _ _ (Nat.lt_of_lt_of_le hx H.size)]; exact H.old x hx hd
 ·by_cases hx : x = w.heap.size
  ·subst hx
   simp only [if_true, Option.some.injEq] at e
   subst e
   refine ⟨World.alloc_heap_new w _, fun hlt => ?_⟩
   have := H.size
   omega
  ·simp only [hx, if_false] at e
   rw [Go.RowKit.Below.heap_alloc _ _ _ (hn _ _ e)]
   exact a x o e
 ·refine ⟨fun x => if x = w.heap.size then some o' else none, h, by simp [ob], b, fun x => ?_, fun x o e => ?_, fun x o e => ?_⟩
  ·by_cases hx : x = w.heap.size
   ·subst hx; exact .inr hs
   ·left; simp [hx]
  ·by_cases hx : x = w.heap.size
   ·simp only [hx, if_true] at e ⊢; exact e
   ·simp [hx] at e
  ·have : x ≠ w.heap.size := by rintro rfl; rw [hs] at e; cases e
   simp [this, e]
theorem Own.at_ob {D : Nat → Prop} {w0 w : World} {l : List HProp} {b : Nat} {o : Obj} (H : Own D w0 w (ob b o :: l)) : w.heap[b]? = some o := by
 obtain ⟨h, a, h1, h2, p, _, _, s1, _⟩ := H.own
 exact (a b _ (s1 _ _ p)).1
theorem Own.putO {D : Nat → Prop} {w0 w : World} {l : List HProp} {b : Nat} {o : Obj} (H : Own D w0 w (ob b o :: l)) (o' : Obj) : Own D w0 (w.putObj b o') (ob b o' :: l) := by
 have hb := H.at_ob
 have hlt : b < w.heap.size := (Array.getElem?_eq_some_iff.1 hb).1
 obtain ⟨h, a, h1, h2, p, q, d, s1, s2⟩ := H.own
 have hh2 : h2 b = none := by
  rcases d b with e | e
  ·rw [p] at e; cases e
  ·exact e
 refine ⟨H.os, H.tape, H.output, by rw [World.putObj_size]; exact H.size, fun x hx hd => ?_, fun x => if x = b then some o' else h x, fun x o e => ?_, ?_⟩
 ·have : x ≠ b := by rintro rfl; exact hd ((a _ _ (s1 _ _ p)).2 hx)
  rw [World.putObj_heap_other this]; exact H.old x hx hd
 ·by_cases hx : x = b
  ·subst hx
   simp only [if_true, Option.some.injEq] at e
   subst e
   exact ⟨World.putObj_heap_same hlt, (a _ _ (s1 _ _ p)).2⟩
  ·simp only [hx, if_false] at e
   rw [World.putObj_heap_other hx]
   exact a x o e
 ·refine ⟨fun x => if x = b then some o' else none, h2, by simp [ob], q, fun x => ?_, fun x o e => ?_, fun x o e => ?_⟩
  ·by_cases hx : x = b
   ·subst hx; exact .inr hh2
   ·left; simp [hx]
  ·by_cases hx : x = b
   ·simp only [hx, if_true] at e ⊢; exact e
   ·simp [hx] at e
  ·have : x ≠ b := by rintro rfl; rw [hh2] at e; cases e
   simp [this, s2 _ _ e]

structure Easy (F : Fence) : Prop where
 fn : ∀ f, F.fn f
 depth : F.depth = none
 calls : ∀ {m : Nat} {P : Program} {f : FuncId} {args : Array Value} {w : World} {R : Ending → World → Prop}, Calls P f args w R → CallsIn F m P f args w R
theorem Easy.wide : Easy Fence.wide := ⟨fun _ => trivial, rfl, fun h => callsIn_wide.2 h⟩
theorem Easy.round (l : Nat) : Easy (Fence.wide.inRound l) := ⟨fun _ => trivial, rfl, fun {m P f args w R} h => show CallsIn (Fence.wide.inRound l) m P f args w R from (callsIn_wide.2 h : CallsIn Fence.wide m P f args w R)⟩
def YieldAt (F : Fence) (m : Nat) (P : Program) (l : Nat) (args : Array Value) (W : World) (R : Ending → World → Prop) : Prop :=
 ∃ fn tmps assign body, (Instr.yield l args).run P W = .ok (.round l fn tmps assign body) W ∧ RoundIn F m P l fn tmps assign body W R
theorem semAt_of {ro : Option Nat} {ρ : Operand → Value} {o : Oper} {P : Program} {w w' : World} {x : Next} (h : (execOp ρ o).run P w = .ok x w') (hx : ∀ d, x ≠ .defer d) : (Oper.semAt ro ρ o).run P w = .ok x w' := by
 by_cases hd : ∃ c, o.op = .defer c
 ·obtain ⟨c, hc⟩ := hd
  exfalso
  simp only [execOp, hc, Sem.run_bind] at h
  cases hr : (resolve ρ c o.type).run P w with
  | ok d w1 =>
   rw [hr] at h
   simp only [Result.andThen, Sem.run_pure] at h
   injection h with h1 _
   exact hx d h1.symm
  | halt k w1 => rw [hr] at h; simp [Result.andThen] at h
 ·rw [Oper.semAt_eq _ _ _ (fun c e => hd ⟨c, e⟩)]; exact h

structure StD (ds : List Deferred) (D : Nat → Prop) (w0 : World) (n : Nat) (env : Slots) (l : List HProp) (a : Act) (w : World) : Prop where
 env : Env n { a with defers := [] } env
 ds : a.defers = ds
 own : Own D w0 w l
structure HCi (F : Fence) (ds : List Deferred) (P : Program) (Q : Post) (D : Nat → Prop) (w0 : World) (n : Nat) (env : Slots) (l : List HProp) (c : Code) : Prop where
 run : ∀ a w, StD ds D w0 n env l a w → c.wpIn F 0 P Q a w
structure HLi (F : Fence) (ds : List Deferred) (P : Program) (ops : Array Oper) (Q : Post) (D : Nat → Prop) (w0 : World) (n : Nat) (env : Slots) (l : List HProp) (r : List Oper) : Prop where
 run : ∀ a w, StD ds D w0 n env l a w → wpListIn F 0 P ops Q r a w
structure HXi (ds : List Deferred) (Q : Post) (e : Exit) (D : Nat → Prop) (w0 : World) (n : Nat) (env : Slots) (l : List HProp) : Prop where
 run : ∀ a w, StD ds D w0 n env l a w → Q e a w
theorem Env.plain {n : Nat} {a : Act} {env : Slots} (h : Env n a env) : Env n { a with defers := [] } env := ⟨h.size, rfl, h.get⟩
theorem StD.plain {D : Nat → Prop} {w0 : World} {n : Nat} {env : Slots} {l : List HProp} {a : Act} {w : World} (S : StD [] D w0 n env l a w) : St D w0 n env l a w := ⟨⟨S.env.size, S.ds, S.env.get⟩, S.own⟩
theorem St.toD {D : Nat → Prop} {w0 : World} {n : Nat} {env : Slots} {l : List HProp} {a : Act} {w : World} (S : St D w0 n env l a w) : StD [] D w0 n env l a w := ⟨S.env.plain, S.env.defers, S.own⟩
theorem StD.put {ds : List Deferred} {D : Nat → Prop} {w0 : World} {n : Nat} {env : Slots} {l l' : List HProp} {a : Act} {w w' : World} (S : StD ds D w0 n env l a w) {d : Nat} (hd : Nat.blt d n = true) (v : Value) (H : Own D w0 w' l') : StD ds D w0 n ((d, v) :: env) l' (a.put (some d) v) w' := ⟨S.env.put hd v, S.ds, H⟩

section
variable {F : Fence} {ds : List Deferred} {P : Program} {Q : Post} {D : Nat → Prop} {w0 : World} {n : Nat} {env : Slots} {l : List HProp} {ops : Array Oper} {r : List Oper} {o : Oper}
theorem HCi.ent {l' : List HProp} {c : Code} (hl : Ent l l') (h : HCi F ds P Q D w0 n env l' c) : HCi F ds P Q D w0 n env l c := .mk fun a w S => h.run a w ⟨S.env, S.ds, S.own.ent hl⟩
theorem HXi.ent {l' : List HProp} {e : Exit} (hl : Ent l l') (h : HXi ds Q e D w0 n env l') : HXi ds Q e D w0 n env l := .mk fun a w S => h.run a w ⟨S.env, S.ds, S.own.ent hl⟩
theorem hc_wide {c : Code} (h : HCi Fence.wide [] P Q D w0 n env l c) : HC P Q D w0 n env l c := .mk fun a w S => wpIn_wide.1 (h.run a w S.toD)
theorem hix_back {e : Exit} (h : HX Q e D w0 n env l) : HXi [] Q e D w0 n env l := .mk fun a w S => h.run a w S.plain

theorem hic_seq {x y : Code} (h : HCi F ds P (Exit.then (y.wpIn F 0 P Q) Q) D w0 n env l x) : HCi F ds P Q D w0 n env l (Code.seq x y) := .mk fun a w S => wpIn_seq (h.run a w S)
theorem hic_skip (h : HXi ds Q .normal D w0 n env l) : HCi F ds P Q D w0 n env l .skip := .mk fun a w S => wpIn_skip (h.run a w S)
theorem hic_ret (h : HXi ds Q .ret D w0 n env l) : HCi F ds P Q D w0 n env l .ret := .mk fun a w S => wpIn_ret (h.run a w S)
theorem hic_block {i : Nat} {c : Code} (h : HCi F ds P (Exit.inBlock i Q) D w0 n env l c) : HCi F ds P Q D w0 n env l (.block i c) := .mk fun a w S => wpIn_block (h.run a w S)
theorem hic_cond {c : Operand} {x y : Code} {p : Prop} [Decidable p] (hc : evalO env c = some (.bool (decide p))) (ht : p → HCi F ds P Q D w0 n env l x) (hf : ¬ p → HCi F ds P Q D w0 n env l y) : HCi F ds P Q D w0 n env l (.cond c x y) := .mk fun a w S => by
 have e : a.eval c = _ := S.env.eval hc
 by_cases hp : p
 ·exact wpIn_cond_true (by rw [e, decide_eq_true hp]) ((ht hp).run a w S)
 ·exact wpIn_cond_false (by rw [e, decide_eq_false hp]) ((hf hp).run a w S)
theorem hic_cond_false {c : Operand} {x y : Code} (hc : evalO env c = some (.bool false)) (ht : HCi F ds P Q D w0 n env l y) : HCi F ds P Q D w0 n env l (.cond c x y) := .mk fun a w S =>
 wpIn_cond_false (S.env.eval hc) (ht.run a w S)
theorem hic_cond_T {c : Operand} {x y : Code} {p : Prop} [Decidable p] (hc : evalO env c = some (.bool (decide p))) (hp : p) (ht : HCi F ds P Q D w0 n env l x) : HCi F ds P Q D w0 n env l (.cond c x y) :=
 hic_cond hc (fun _ => ht) (fun h => absurd hp h)
theorem hic_cond_F {c : Operand} {x y : Code} {p : Prop} [Decidable p] (hc : evalO env c = some (.bool (decide p))) (hp : ¬ p) (ht : HCi F ds P Q D w0 n env l y) : HCi F ds P Q D w0 n env l (.cond c x y) :=
 hic_cond hc (fun h => absurd h hp) (fun _ => ht)
theorem hix_then_normal {y : Code} {Q' : Post} (h : HCi F ds P Q' D w0 n env l y) : HXi ds (Exit.then (y.wpIn F 0 P Q') Q) .normal D w0 n env l := ⟨h.run⟩
theorem hix_then_normalW {y : Code} {Q' : Post} (h : HCi Fence.wide ds P Q' D w0 n env l y) : HXi ds (Exit.then (y.wp P Q') Q) .normal D w0 n env l := ⟨fun a w S => wpIn_wide.1 (h.run a w S)⟩
theorem hix_block_normal {i : Nat} (h : HXi ds Q .normal D w0 n env l) : HXi ds (Exit.inBlock i Q) .normal D w0 n env l := ⟨h.run⟩
theorem hic_region {id : Nat} {r : List Oper} (h : HLi F ds P r.toArray Q D w0 n env l r) : HCi F ds P Q D w0 n env l (.region id r.toArray false) := .mk fun a w S => wpIn_region_lit (h.run a w S)
theorem hil_nil (h : HXi ds Q .normal D w0 n env l) : HLi F ds P ops Q D w0 n env l [] := .mk fun a w S => wpListIn_nil (h.run a w S)
theorem hil_val' (hF : Easy F) {d : Nat} {v : Value} (h : OpVal P D w0 env l o v) (hd : o.dst = some d) (hg : o.guard = none) (hn : Nat.blt d n = true) (k : HLi F ds P ops Q D w0 n ((d, v) :: env) l r) : HLi F ds P ops Q D w0 n env l (o :: r) := .mk fun a w S => by
 refine wpListIn_plain hg fun K hK => ?_
 unfold Oper.wpIn
 refine ⟨fun f _ => hF.fn f, ?_⟩
 have h0 := h.run n { a with defers := [] } w S.env S.own
 have h1 : (execOp a.eval o).run P w = .ok (.value v) w := h0
 rw [semAt_of h1 Z53, Oper.uponIn_value, hd]
 exact hK _ _ (k.run _ w (S.put hn v S.own))
theorem hil_new' (hF : Easy F) {d : Nat} {σ : Type} {v : σ → Value} {l' : σ → List HProp} (h : OpNew P D w0 env l o v l') (hd : o.dst = some d) (hg : o.guard = none) (hn : Nat.blt d n = true) (k : ∀ s, HLi F ds P ops Q D w0 n ((d, v s) :: env) (l' s) r) : HLi F ds P ops Q D w0 n env l (o :: r) := .mk fun a w S => by
 refine wpListIn_plain hg fun K hK => ?_
 unfold Oper.wpIn
 refine ⟨fun f _ => hF.fn f, ?_⟩
 obtain ⟨s, w', hr, H⟩ := h.run n { a with defers := [] } w S.env S.own
 rcases hr with hr | ⟨hr, hu⟩
 ·have h1 : (execOp a.eval o).run P w = _ := hr
  rw [semAt_of h1 Z53, Oper.uponIn_value, hd]
  exact hK _ _ ((k s).run _ w' (S.put hn _ H))
 ·have h1 : (execOp a.eval o).run P w = _ := hr
  rw [semAt_of h1 Z53, Oper.uponIn_skip, hd, ← hu]
  exact hK _ _ ((k s).run _ w' (S.put hn _ H))
theorem hil_new0' (hF : Easy F) {σ : Type} {v : σ → Value} {l' : σ → List HProp} (h : OpNew P D w0 env l o v l') (hd : o.dst = none) (hg : o.guard = none) (k : ∀ s, HLi F ds P ops Q D w0 n env (l' s) r) : HLi F ds P ops Q D w0 n env l (o :: r) := .mk fun a w S => by
 refine wpListIn_plain hg fun K hK => ?_
 unfold Oper.wpIn
 refine ⟨fun f _ => hF.fn f, ?_⟩
 obtain ⟨s, w', hr, H⟩ := h.run n { a with defers := [] } w S.env S.own
 rcases hr with hr | ⟨hr, hu⟩
 ·have h1 : (execOp a.eval o).run P w = _ := hr
  rw [semAt_of h1 Z53, Oper.uponIn_value, hd]
  exact hK _ _ ((k s).run _ w' ⟨S.env, S.ds, H⟩)
 ·have h1 : (execOp a.eval o).run P w = _ := hr
  rw [semAt_of h1 Z53, Oper.uponIn_skip, hd]
  exact hK _ _ ((k s).run _ w' ⟨S.env, S.ds, H⟩)
class EasyI (F : Fence) : Prop where out : Easy F
instance : EasyI Fence.wide := ⟨Easy.wide⟩
instance (l : Nat) : EasyI (Fence.wide.inRound l) := ⟨Easy.round l⟩
theorem hil_val [hF : EasyI F] {d : Nat} {v : Value} (h : OpVal P D w0 env l o v) (hd : o.dst = some d) (hg : o.guard = none) (hn : Nat.blt d n = true) (k : HLi F ds P ops Q D w0 n ((d, v) :: env) l r) : HLi F ds P ops Q D w0 n env l (o :: r) := hil_val' hF.out h hd hg hn k
theorem hil_new [hF : EasyI F] {d : Nat} {σ : Type} {v : σ → Value} {l' : σ → List HProp} (h : OpNew P D w0 env l o v l') (hd : o.dst = some d) (hg : o.guard = none) (hn : Nat.blt d n = true) (k : ∀ s, HLi F ds P ops Q D w0 n ((d, v s) :: env) (l' s) r) : HLi F ds P ops Q D w0 n env l (o :: r) := hil_new' hF.out h hd hg hn k
theorem hil_u [hF : EasyI F] {d : Nat} {v : Value} {l' : List HProp} (h : OpNew P D w0 env l o (fun _ : Unit => v) (fun _ => l')) (hd : o.dst = some d) (hg : o.guard = none) (hn : Nat.blt d n = true) (k : HLi F ds P ops Q D w0 n ((d, v) :: env) l' r) : HLi F ds P ops Q D w0 n env l (o :: r) := hil_new h hd hg hn fun _ => k
theorem hil_u0 [hF : EasyI F] {v : Value} {l' : List HProp} (h : OpNew P D w0 env l o (fun _ : Unit => v) (fun _ => l')) (hd : o.dst = none) (hg : o.guard = none) (k : HLi F ds P ops Q D w0 n env l' r) : HLi F ds P ops Q D w0 n env l (o :: r) := hil_new0' hF.out h hd hg fun _ => k
theorem hil_yield {d lp : Nat} {fx : Operand} {args : List Operand} {ats : Array TypeId} {ty : TypeId} {pos : String} {after : Array Edge} {vs : List Value} {v : Value} {l' : List HProp} (hf : evalO env fx = some (.func (.yield lp) #[] #[]))
  (hv : evalL env args = some vs) (hn : Nat.blt d n = true) (hc : ∀ w, Own D w0 w l → YieldAt Fence.wide 0 P lp vs.toArray w fun e w' => e = .returned v ∧ Own D w0 w' l')
  (k : HLi Fence.wide ds P ops Q D w0 n ((d, v) :: env) l' r) : HLi Fence.wide ds P ops Q D w0 n env l (⟨some d, .call ⟨.value fx, args.toArray, ats⟩, ty, pos, after, none⟩ :: r) := .mk fun a w S => by
 refine wpListIn_plain rfl fun K hK => ?_
 unfold Oper.wpIn
 refine ⟨fun f _ => trivial, ?_⟩
 obtain ⟨fn, tmps, assign, body, hy, hR⟩ := hc w S.own
 have hrun : (execOp a.eval ⟨some d, .call ⟨.value fx, args.toArray, ats⟩, ty, pos, after, none⟩).run P w = .ok (.round lp fn tmps assign body) w := by
  have he : args.map a.eval = vs := S.env.evals hv
  have hfe : a.eval fx = _ := S.env.eval hf
  simp [execOp, resolve, Deferred.ofValue, hfe, invoke, he, hy]
 rw [semAt_of hrun Z53, Oper.uponIn_round]
 refine ⟨fun h => (by simp [Fence.wide] at h), hR.mono fun e w' ⟨he, H⟩ => ?_⟩
 subst he
 exact hK _ _ (k.run _ w' (S.put hn _ H))

def loopP (lp dp : Nat) (rec : Loop) (st : LoopState) : HProp := fun h => stars [ob lp (.loop { rec with state := st, pending := none }), ob dp (.deferred (some []))] h
theorem loopP_open {lp dp : Nat} {rec : Loop} {st : LoopState} {r : List HProp} : Ent (loopP lp dp rec st :: r) (ob lp (.loop { rec with state := st, pending := none }) :: ob dp (.deferred (some [])) :: r) := fun h e => stars_allP.1 e
theorem loopP_close {lp dp : Nat} {rec : Loop} {st : LoopState} {r : List HProp} : Ent (ob lp (.loop { rec with state := st, pending := none }) :: ob dp (.deferred (some [])) :: r) (loopP lp dp rec st :: r) := fun h e => stars_allP.2 e
def SeqOwn (P : Program) (D : Nat → Prop) (w0 : World) (gf : Nat) (lb : List Value) (N : Nat) (enc : Nat → Value) (L : Nat → List HProp) : Prop :=
 ∀ (lp : Nat) (X : HProp) (W : World), Own D w0 W (X :: L 0) →
  (∀ k W, k < N → Own D w0 W (X :: L k) → YieldAt Fence.wide 0 P lp #[enc k] W fun e W' => e = .returned (.bool true) ∧ Own D w0 W' (X :: L (k + 1))) →
  Calls P gf (.func (.yield lp) #[] #[] :: lb).toArray W fun e W' => ∃ v, e = .returned v ∧ Own D w0 W' (X :: L N)
def RoundK (P : Program) (lp : Nat) (body : Code) (R : Ending → World → Prop) : Act → World → Prop := fun a1 w1 => ∃ w2, (Instr.beginRound lp).run P w1 = .ok () w2 ∧ body.wpIn (Fence.wide.inRound lp) 0 P (roundPost P lp R) a1 w2
def RoundR (D : Nat → Prop) (w0 : World) (l : List HProp) : Ending → World → Prop := fun e W' => e = .returned (.bool true) ∧ Own D w0 W' l
theorem hix_begin {lp dp : Nat} {rec : Loop} {body : Code} {R : Ending → World → Prop} (h : HCi (Fence.wide.inRound lp) [] P (roundPost P lp R) D w0 n env (loopP lp dp rec .busy :: l) body) :
  HXi [] (Exit.then (RoundK P lp body R) (fun _ _ _ => False)) .normal D w0 n env (loopP lp dp rec .ready :: l) := .mk fun a w S => by
 have H := S.own.ent loopP_open
 exact ⟨_, run_beginRound H.at_ob rfl, h.run a _ ⟨S.env, S.ds, (H.putO _).ent loopP_close⟩⟩
theorem hix_end {lp dp : Nat} {rec : Loop} {l' : List HProp} (hl : Ent l (loopP lp dp rec .busy :: l')) : HXi [] (roundPost P lp (RoundR D w0 (loopP lp dp rec .ready :: l'))) .normal D w0 n env l := .mk fun a w S => by
 have H := (S.own.ent hl).ent loopP_open
 exact ⟨_, _, run_endRound none H.at_ob, rfl, (H.putO _).ent loopP_close⟩
theorem hc_rangeFunc {g : Operand} {p : Tmp} {assign body : Code} {gf : Nat} {lb : List Value} (hg : evalO env g = some (.func (.func gf) #[] lb.toArray)) (eg : ∀ args w, (callFunc gf args).run P w = .ok (.enter gf args) w) (hp : Nat.blt p n = true)
  (N : Nat) (enc : Nat → Value) (L : Nat → List HProp) (h0 : Ent l (L 0)) (hseq : SeqOwn P D w0 gf lb N enc L)
  (hround : ∀ lp dp rec k, k < N → HCi (Fence.wide.inRound lp) [] P (Exit.then (RoundK P lp body (RoundR D w0 (loopP lp dp rec .ready :: L (k + 1)))) (fun _ _ _ => False)) D w0 n ((p, enc k) :: env) (loopP lp dp rec .ready :: L k) assign)
  (hdone : ∀ dp, HXi [⟨.collected dp, #[]⟩] Q .normal D w0 n env (ob dp (.deferred (some [])) :: L N)) :
  HC P Q D w0 n env l (.rangeFunc g #[p] assign body) := .mk fun a w S => by
 refine (wpIn_wide (n := 0)).1 (wpIn_rangeFunc ?_)
 intro fn hfn
 obtain ⟨rec, hrec⟩ : ∃ rec : Loop, rec = { state := .ready, pending := none, fn, tmps := a.tmps, params := #[p], assign, body, defers := w.heap.size } := ⟨_, rfl⟩
 have H1 := (((S.own.ent h0).allocO (.deferred (some []))).allocO (.loop rec))
 rw [World.size_alloc] at H1
 have H2 : Own D w0 ((w.alloc (.deferred (some []))).alloc (.loop rec)) (loopP (w.heap.size + 1) w.heap.size rec .ready :: L 0) := by
  refine Own.ent ?_ loopP_close
  have : ({ rec with state := .ready, pending := none } : Loop) = rec := by rw [hrec]
  rw [this]; exact H1
 have hge : a.eval g = _ := S.env.eval hg
 refine ⟨w.heap.size + 1, [{ target := .collected w.heap.size, args := #[] }], (w.alloc (.deferred (some []))).alloc (.loop rec), { target := .fn (.func gf) lb.toArray, args := #[.func (.yield (w.heap.size + 1)) #[] #[]] }, (w.alloc (.deferred (some []))).alloc (.loop rec), gf,
  (.func (.yield (w.heap.size + 1)) #[] #[] :: lb).toArray, (w.alloc (.deferred (some []))).alloc (.loop rec), ?_, ?_, ?_, ?_, fun h => by simp [Fence.wide] at h, ?_⟩
 ·rw [hrec]; exact run_enterLoop_outer _ _ _ _ _
 ·simp only [resolve, hge]
  simp [go_sem]
 ·intro f' _; trivial
 ·simp [invoke, go_sem, eg]
 ·refine callsIn_wide.2 ((hseq (w.heap.size + 1) _ _ H2 ?_).mono ?_)
  ·intro k W hk H
   have hl := (H.ent loopP_open).at_ob
   have hy := run_yield (P := P) (args := #[enc k]) hl (by rw [hrec]; rfl)
   refine ⟨_, _, _, _, hy, roundIn_of_wpIn trivial ?_⟩
   have hb := (hround (w.heap.size + 1) w.heap.size rec k hk).run { tmps := a.tmps.setIfInBounds p (enc k), defers := [] } W ⟨?_, rfl, H⟩
   ·subst hrec
    unfold RoundK RoundR at hb
    simpa using hb
   ·exact (S.env.put hp (enc k)).plain
  ·rintro e W2 ⟨v, rfl, H⟩
   have H3 := H.ent loopP_open
   refine ⟨none, _, run_endLoop (P := P) H3.at_ob (by simp), ?_⟩
   refine (hdone w.heap.size).run _ _ ⟨S.env.plain, by rw [S.env.defers]; rfl, (H3.putO _).ent (Ent.drop (Ent.refl _))⟩
theorem hc_enterM {f : FuncId} {fn : Func} {c : Code} {vs : List Value} {w : World} {R : Ending → World → Prop} {D : Nat → Prop} {w0 : World} {l : List HProp} (hf : P.funcs[f]? = some fn) (hb : fn.body = some c) (n : Nat) (hn : fn.ntmps = n)
  (hv : Nat.ble vs.length n = true) (H : Own D w0 w l) (h : HC P (bodyPostM Fence.wide 0 P fn R) D w0 n (argSlots 0 vs) l c) : Calls P f vs.toArray w R := by
 have hv' : vs.length ≤ n := by simpa using hv
 refine (callsIn_wide (n := 0)).1 (callsIn_of_wp_marks (args := vs.toArray) hf hb trivial (wpIn_wide.2 (h.run _ w ⟨⟨by simp [hn]; omega, rfl, fun t v e => ?_⟩, H⟩)))
 obtain ⟨_, h2⟩ := argSlots_get vs 0 t v e
 have hlt : t < vs.length := by
  rcases Nat.lt_or_ge t vs.length with h | h
  ·exact h
  ·simp [List.getElem?_eq_none h] at h2
 simp only [Nat.sub_zero] at h2
 rw [Array.getElem?_append_left (by simpa using hlt)]
 simpa using h2
theorem resultsM_2 {fn : Func} {R : Ending → World → Prop} {e : Exit} (he : e = .normal ∨ e = .ret) {t u dp : Nat} (hr : fn.results = #[.tmp t, .tmp u]) {v z : Value} (hv : Slots.get env t = some v) (hz : Slots.get env u = some z) {l' : List HProp} [hl : Pick l (ob dp (.deferred (some []))) l']
  (h : ∀ w, Own D w0 w l' → R (.returned (.tuple #[v, z])) w) : HXi [⟨.collected dp, #[]⟩] (bodyPostM Fence.wide 0 P fn R) e D w0 n env l := .mk fun a w S => by
 have H := S.own.ent (Ent.perm hl.out)
 have k := results_tmp2 hr a.tmps P (w.putObj dp (.deferred none))
 rw [show a.tmps.getD t undef = v from S.env.getD hv, show a.tmps.getD u undef = z from S.env.getD hz] at k
 have hL : LeavesInM Fence.wide 0 P fn a.tmps R a.defers .returning w := by
  rw [S.ds]
  exact ⟨by simp, .inl ⟨dp, _, rfl, run_takeDeferred H.at_ob, _, k, h _ ((H.putO _).ent (Ent.drop (Ent.refl _)))⟩⟩
 rcases he with rfl | rfl <;> exact hL
end
end Slk

set_option linter.unusedVariables false
set_option linter.unusedSimpArgs false
namespace Slk
open Go
section
variable {P : Program} {D : Nat → Prop} {w0 : World} {env : Slots} {l : List HProp} {dst : Option Tmp} {ty : TypeId} {pos : String} {after : Array Edge} {g : Option (Nat × Bool)}
theorem ov_cap {t e : TypeId} [h : TySlice P t e] {x : Operand} {b : Option Addr} {n cap : Nat} (hx : evalO env x = some (.slice b n cap)) : OpVal P D w0 env l ⟨dst, .call ⟨.builtin .cap, #[x], #[t]⟩, ty, pos, after, g⟩ (.int .i64 cap) := .mk fun n' a w E H => by
 simp [execOp, resolve, invoke, builtin, E.eval hx, Builtin.cap_, run_underlying h.out, goInt]
theorem on_appendZ {t e ti : TypeId} {s bb : Nat} {z : List Value} [h : TySlice P t e] [hs : TyI P e s bb z] [hi : TyInt P ti .i64] {x y : Operand} {m : Nat} {j : Int} (hx : evalO env x = some (.slice none 0 0)) (hy : evalO env y = some (.int .i64 j)) (hj : j = m) (hm : 0 < m) (hs0 : 0 < s) (hb0 : 0 < bb) (hb : m * bb ≤ 140737488355328) :
  OpNew P D w0 env l ⟨dst, .call ⟨.builtin .append, #[x, y], #[t, ti]⟩, ty, pos, after, g⟩ (fun p : Option Addr × Nat => .slice p.1 m p.2) (fun p => row p.1 e s m p.2 (zerosL z m) :: l) := .mk fun n' a w E H => by
 subst hj
 have hz := hs.len
 suffices hrun : ∃ p : Option Addr × Nat, ∃ w', (Builtin.append_ #[t, ti] ty #[.slice none 0 0, .int .i64 m]).run P w = .ok (.slice p.1 m p.2) w' ∧ Own D w0 w' (row p.1 e s m p.2 (zerosL z m) :: l) by
  obtain ⟨p, w', hr, hO⟩ := hrun
  refine ⟨p, w', .inl ?_, hO⟩
  simp [execOp, resolve, invoke, builtin, E.eval hx, E.eval hy, hr]
 obtain ⟨i, hi', hi1, hi2, zv, hi3, hi4⟩ := run_info (P := P) (t := e)
 have hzs : zv.cells.size = s := by rw [← Array.length_toList, hi4, hz]
 have hneed : m ≤ 140737488355328 := Nat.le_trans (Nat.le_mul_of_pos_right _ hb0) hb
 have hcapge : m ≤ grownCap w m 0 e := by
  unfold grownCap Question.cut
  exact Nat.le_add_right _ _
 have hcaple : grownCap w m 0 e ≤ 9223372036854775807 := by
  unfold grownCap Question.cut
  have h2 : (2 : Nat) ^ 63 = 9223372036854775808 := by decide
  have := Nat.mod_lt (w.tape w.drawn (.appendCap m 0 e)) (show 0 < 2 ^ 63 - m by rw [h2]; omega)
  simp only
  rw [h2] at this ⊢
  omega
 have hzl : ∀ k, (zerosL z k).length = k * s := fun k => by rw [zerosL_length, hz]
 refine ⟨(some ⟨w.heap.size, 0, none⟩, grownCap w m 0 e), w.drew.alloc (.cells (zerosL z m ++ zerosL z (grownCap w m 0 e - m)).toArray e), ?_, (H.drew.alloc e (zerosL z m ++ zerosL z (grownCap w m 0 e - m))).ent (Ent.head fun x hx => ?_)⟩
 ·have hne : ¬ (m = 0) := by omega
  have hms : ¬ (m * s = 0) := by
   have := Nat.mul_pos hm hs0
   omega
  have h63' : ¬ (9223372036854775807 < (m : Int)) := by omega
  have h48' : ¬ (281474976710656 < Builtin.nextslicecap m 0 * i.bytes) := by
   have := growslice_fits (need := m) (old := 0) (bytes := bb) hm (by simpa using hb)
   rw [hi2]; omega
  have h48'' : ¬ ((281474976710656 : Int) < (m : Int) * (i.bytes : Int)) := by
   rw [hi2]
   have : (m : Int) * (bb : Int) = ((m * bb : Nat) : Int) := by simp
   rw [this]; omega
  have hwr : IntKind.i64.wrap (m : Int) = m := wrap_i64 Z64
  have hzz : (Builtin.zeroCells zv.cells (grownCap w m 0 e - m)) = (zerosL z (grownCap w m 0 e - m)).toArray := by
   apply Array.ext'; rw [zeroCells_eq, hi4]
  have hz2 : (Builtin.zeroCells zv.cells m) = (zerosL z m).toArray := by
   apply Array.ext'; rw [zeroCells_eq, hi4]
  have hs' : i.size ≠ 0 := by omega
  have hms2 : ¬ (m * i.size = 0) := by rw [hi1]; exact hms
  have hng : ¬ ((m : Int) < 0) := by omega
  simp [Builtin.append_, run_underlying h.out, run_underlying hi.out, asInt, asIntOf, hwr, hng, hms2, Go.sizeOf, typeInfo, zeroValue, hi', hi3, Builtin.lenOf, hne, hms, hs', h63', h48', h48'', Question.forced, run_firstCells_none]
  simp only [grownCap] at hzz
  simp [newRow, grownCap, hzz, hz2]
 ·refine ⟨hzl m, hcapge, hcaple, .inr ⟨w.heap.size, [], zerosL z (grownCap w m 0 e - m), rfl, ?_, by simpa using hx⟩⟩
  show (grownCap w m 0 e - m) * s ≤ _
  rw [hzl]; exact Nat.le_refl _
theorem Ent.row_zero {A : Option Addr} {t : TypeId} {sz n cap : Nat} {cs : List Value} {r : List HProp} : Ent (row A t sz n cap cs :: r) (row A t sz 0 cap [] :: r) := Ent.head fun h ⟨h1, h2, h3, h4⟩ => by
 refine ⟨by simp, Nat.zero_le _, h3, ?_⟩
 rcases h4 with h4 | ⟨b, pre, rest, rfl, h5, h6⟩
 ·exact .inl h4
 ·refine .inr ⟨b, pre, cs ++ rest, rfl, ?_, by simpa [List.append_assoc] using h6⟩
  rw [List.length_append, h1, Nat.sub_zero]
  have : cap * sz = n * sz + (cap - n) * sz := by rw [← Nat.add_mul]; congr 1; omega
  omega
theorem SrcIs.rowR {r : List HProp} {A : Option Addr} {t : TypeId} {sz n cap : Nat} {cs : List Value} [h : PickR l A t sz n cap cs r] (hA : cs ≠ [] → Slk.isA A) : SrcIs D w0 l A cs := SrcIs.row (h := ⟨h.out⟩) hA
end
section
variable {σ : Type} {L : σ → List HProp} {F : Fence} {ds : List Deferred} {P : Program} {Q : Post} {D : Nat → Prop} {w0 : World} {n : Nat} {env : Slots} {l : List HProp}
theorem HCi.exs {c : Code} (k : ∀ x, HCi F ds P Q D w0 n env (L x ++ l) c) : HCi F ds P Q D w0 n env (exS L :: l) c := .mk fun a w S => by
 obtain ⟨x, H⟩ := Own.exs S.own
 exact (k x).run a w ⟨S.env, S.ds, H⟩
theorem HXi.exs {e : Exit} (k : ∀ x, HXi ds Q e D w0 n env (L x ++ l)) : HXi ds Q e D w0 n env (exS L :: l) := .mk fun a w S => by
 obtain ⟨x, H⟩ := Own.exs S.own
 exact (k x).run a w ⟨S.env, S.ds, H⟩
end
theorem OldS.cells_flat {D : Nat → Prop} {w0 : World} {A : Option Addr} {α : Type} {f : α → List Value} {sz : Nat} (hf : ∀ x, (f x).length = sz) (h0 : 0 < sz) {S : List α} (HS : OldS D w0 A (S.flatMap f)) {k : Nat} (hk : k < S.length) (l : List HProp) : Slk.isA A ∧ CellsAre D w0 l (ab A) (ao A + k * sz) (f S[k]) := by
 have hne : S.flatMap f ≠ [] := fun e => by
  have := congrArg List.length e
  rw [flat_len hf] at this
  have h2 : 0 < S.length * sz := Nat.mul_pos Z64 h0
  rw [this] at h2; simp at h2
 refine ⟨HS.isA hne, CellsAre.sub ((SrcIs.old (l := l) HS).cells hne) fun i v hv => ?_⟩
 have : i < sz := by
  rcases Nat.lt_or_ge i sz with h | h
  ·exact h
  ·rw [List.getElem?_eq_none (by rw [hf]; exact h)] at hv; cases hv
 rw [flat_at hf S k i hk this]; exact hv
end Slk

set_option linter.unusedVariables false
set_option linter.unusedSimpArgs false
namespace Slk
open Go
section
variable {P : Program} {Q : Post} {D : Nat → Prop} {w0 : World} {n : Nat} {env : Slots} {l : List HProp} {ops : Array Oper} {r tail : List Oper} {o : Oper}
theorem hl_v {d : Nat} {v : Value} (h : OpVal P D w0 env l o v) (hd : o.dst = some d) (k : HL P ops Q D w0 n ((d, v) :: env) l r) (hg : o.guard = none := by rfl) (hn : Nat.blt d n = true := by rfl) : HL P ops Q D w0 n env l (o :: r) := hl_val h hd hg hn k
theorem hq_v {d : Nat} {v : Value} (h : OpVal P D w0 env l o v) (hd : o.dst = some d) (k : HQ P ops Q D w0 n ((d, v) :: env) l r) (hg : o.guard = none := by rfl) (hn : Nat.blt d n = true := by rfl) : HQ P ops Q D w0 n env l (o :: r) := hq_val h hd hg hn k
theorem ht_v {d : Nat} {v : Value} (h : OpVal P D w0 env l o v) (hd : o.dst = some d) (k : HT P ops Q D w0 n ((d, v) :: env) l tail r) (hg : o.guard = none := by rfl) (hn : Nat.blt d n = true := by rfl) : HT P ops Q D w0 n env l tail (o :: r) := ht_val h hd hg hn k
variable {L0 : List HProp} {fuel : Nat} {listed : Array Bool} {rl : List Oper}
theorem ha_v (i : Nat) {d : Nat} {v : Value} (hi : opAt rl i = some o) (h : OpVal P D w0 env L0 o v) (hd : o.dst = some d) [hq : PB Q]
  (k : HA P rl.toArray Q D w0 n ((d, v) :: env) l L0 fuel (listed.setIfInBounds i true)) (hg : guardIs rl.toArray env o.guard = some true := by rfl) (hn : Nat.blt d n = true := by rfl)
  (hs : Region.noSelect rl.toArray = true := by kernel_rfl) (hf : Region.free .any rl.toArray listed i = true := by kernel_rfl) (hr : (Region.ready .any rl.toArray listed).contains i = true := by kernel_rfl) (hE : Ent l L0 := by first | assumption | exact Ent.refl _ | exact Ent.nil _ | (repeat (first | exact Ent.refl _ | exact Ent.nil _ | refine Ent.pick ?_))) :
  HA P rl.toArray Q D w0 n env l L0 (fuel + 1) listed := ha_take i hi h hd hg hn hs hf hr hE k
theorem ha_x (i : Nat) {d : Nat} (hi : opAt rl i = some o) (hd : o.dst = some d) [hq : PB Q]
  (k : HA P rl.toArray Q D w0 n ((d, undef) :: env) l L0 fuel (listed.setIfInBounds i true)) (hg : guardIs rl.toArray env o.guard = some false := by rfl) (hn : Nat.blt d n = true := by rfl)
  (hs : Region.noSelect rl.toArray = true := by kernel_rfl) (hf : Region.free .any rl.toArray listed i = true := by kernel_rfl) (hr : (Region.ready .any rl.toArray listed).contains i = true := by kernel_rfl) (hE : Ent l L0 := by first | assumption | exact Ent.refl _ | exact Ent.nil _ | (repeat (first | exact Ent.refl _ | exact Ent.nil _ | refine Ent.pick ?_))) :
  HA P rl.toArray Q D w0 n env l L0 (fuel + 1) listed := ha_off i hi hd hg hn hs hf hr hE k
theorem ho_v {i : Nat} (hi : opAt rl i = some o) {d : Nat} {v : Value} (h : OpVal P D w0 env l o v) (hd : o.dst = some d) (k : HA P rl.toArray Q D w0 n ((d, v) :: env) l L0 fuel (listed.setIfInBounds i true)) (hg : guardIs rl.toArray env o.guard = some true := by rfl) (hn : Nat.blt d n = true := by rfl)
  (hE : Ent l L0 := by first | assumption | exact Ent.refl _ | exact Ent.nil _ | (repeat (first | exact Ent.refl _ | exact Ent.nil _ | refine Ent.pick ?_))) : HO P rl.toArray Q D w0 n env l L0 i fuel listed := ho_val hi h hd hg hn hE k
theorem ho_n {i : Nat} (hi : opAt rl i = some o) {d : Nat} {σ : Type} {v : σ → Value} {l' : σ → List HProp} (h : OpNew P D w0 env l o v l') (hd : o.dst = some d) (k : ∀ s, HA P rl.toArray Q D w0 n ((d, v s) :: env) (l' s) L0 fuel (listed.setIfInBounds i true)) (hg : guardIs rl.toArray env o.guard = some true := by rfl) (hn : Nat.blt d n = true := by rfl)
  (hE : ∀ s, Ent (l' s) L0 := by intro _; first | assumption | exact Ent.refl _ | exact Ent.nil _ | (repeat (first | exact Ent.refl _ | exact Ent.nil _ | refine Ent.pick ?_))) : HO P rl.toArray Q D w0 n env l L0 i fuel listed := ho_new hi h hd hg hn hE k
theorem ho_w0 {i : Nat} (hi : opAt rl i = some o) {v : Value} {l' : List HProp} (h : OpNew P D w0 env l o (fun _ : Unit => v) (fun _ => l')) (hd : o.dst = none) (k : HA P rl.toArray Q D w0 n env l' L0 fuel (listed.setIfInBounds i true)) (hg : guardIs rl.toArray env o.guard = some true := by rfl)
  (hE : Ent l' L0 := by first | assumption | exact Ent.refl _ | exact Ent.nil _ | (repeat (first | exact Ent.refl _ | exact Ent.nil _ | refine Ent.pick ?_))) : HO P rl.toArray Q D w0 n env l L0 i fuel listed := ho_u0 hi h hd hg hE k
theorem ho_x {i d : Nat} (hi : opAt rl i = some o) (hd : o.dst = some d) (k : HA P rl.toArray Q D w0 n ((d, undef) :: env) l L0 fuel (listed.setIfInBounds i true)) (hg : guardIs rl.toArray env o.guard = some false := by rfl) (hn : Nat.blt d n = true := by rfl)
  (hE : Ent l L0 := by first | assumption | exact Ent.refl _ | exact Ent.nil _ | (repeat (first | exact Ent.refl _ | exact Ent.nil _ | refine Ent.pick ?_))) : HO P rl.toArray Q D w0 n env l L0 i fuel listed := ho_off hi hd hg hn hE k
theorem ho_kx {i : Nat} {d f : Nat} {args : List Operand} {ats : Array TypeId} {ty : TypeId} {pos : String} {after : Array Edge} {gd : Option (Nat × Bool)} (hi : opAt rl i = some ⟨some d, .call ⟨.value (.func f), args.toArray, ats⟩, ty, pos, after, gd⟩) {vs : List Value} {σ : Type} {v : σ → Value} {l' : σ → List HProp} (hcf : ∀ args w, (callFunc f args).run P w = .ok (.enter f args) w)
  (hv : evalL env args = some vs) (hc : ∀ w, Own D w0 w l → Calls P f vs.toArray w fun e w' => ∃ s, e = .returned (v s) ∧ Own D w0 w' (l' s))
  (k : ∀ s, HA P rl.toArray Q D w0 n ((d, v s) :: env) (l' s) L0 fuel (listed.setIfInBounds i true)) (hg : guardIs rl.toArray env gd = some true := by rfl) (hn : Nat.blt d n = true := by rfl)
  (hE : ∀ s, Ent (l' s) L0 := by intro _; first | assumption | exact Ent.refl _ | exact Ent.nil _ | (repeat (first | exact Ent.refl _ | exact Ent.nil _ | refine Ent.pick ?_))) : HO P rl.toArray Q D w0 n env l L0 i fuel listed := ho_call hi hcf hv hg hn hc hE k
theorem ho_k {i : Nat} {d f : Nat} {args : List Operand} {ats : Array TypeId} {ty : TypeId} {pos : String} {after : Array Edge} {gd : Option (Nat × Bool)} (hi : opAt rl i = some ⟨some d, .call ⟨.value (.func f), args.toArray, ats⟩, ty, pos, after, gd⟩) {vs : List Value} {v : Value} {l' : List HProp} (hcf : ∀ args w, (callFunc f args).run P w = .ok (.enter f args) w)
  (hv : evalL env args = some vs) (hc : ∀ w, Own D w0 w l → Calls P f vs.toArray w fun e w' => e = .returned v ∧ Own D w0 w' l')
  (k : HA P rl.toArray Q D w0 n ((d, v) :: env) l' L0 fuel (listed.setIfInBounds i true)) (hg : guardIs rl.toArray env gd = some true := by rfl) (hn : Nat.blt d n = true := by rfl)
  (hE : Ent l' L0 := by first | assumption | exact Ent.refl _ | exact Ent.nil _ | (repeat (first | exact Ent.refl _ | exact Ent.nil _ | refine Ent.pick ?_))) : HO P rl.toArray Q D w0 n env l L0 i fuel listed := ho_c hi hcf hv hg hn hc hE k
end
end Slk

set_option linter.unusedVariables false
set_option linter.unusedSimpArgs false
namespace Slk
open Go
def blk0 (b : Nat) (t : TypeId) (cs : List Value) : HProp := fun h => h b = some (.cells cs.toArray t (0, 0))
theorem blk0_blk {b : Nat} {t : TypeId} {cs : List Value} : Imp (blk0 b t cs) (blk b t cs) := fun h e => ⟨(0, 0), e, .inl rfl⟩
theorem Ent.blk0 {b : Nat} {t : TypeId} {cs : List Value} {l : List HProp} : Ent (blk0 b t cs :: l) (blk b t cs :: l) := Ent.head blk0_blk
theorem Own.alloc0 {D : Nat → Prop} {w0 w : World} {l : List HProp} (H : Own D w0 w l) (t : TypeId) (cs : List Value) :
  Own D w0 (w.alloc (.cells cs.toArray t)) (blk0 w.heap.size t cs :: l) := by
 obtain ⟨h, a, b⟩ := H.own
 have hn : ∀ x o, h x = some o → x < w.heap.size := fun x o e => (Array.getElem?_eq_some_iff.1 (a x o e).1).1
 have hs : h w.heap.size = none := by
  cases e : h w.heap.size with
  | none => rfl
  | some o => exact absurd (hn _ _ e) (Nat.lt_irrefl _)
 refine ⟨H.os, H.tape, H.output, by have := H.size; simp; omega, fun x hx hd => ?_, fun x => if x = w.heap.size then some (.cells cs.toArray t (0, 0)) else h x, fun x o e => ?_, ?_⟩
 ·rw [Go.RowKit.Below.heap_alloc _ _ _ (Nat.lt_of_lt_of_le hx H.size)]; exact H.old x hx hd
 ·by_cases hx : x = w.heap.size
  ·subst hx
   simp only [if_true, Option.some.injEq] at e
   subst e
   refine ⟨by show (w.heap.push _)[w.heap.size]? = _; simp, fun hlt => ?_⟩
   have := H.size
   omega
  ·simp only [hx, if_false] at e
   rw [Go.RowKit.Below.heap_alloc _ _ _ (hn _ _ e)]
   exact a x o e
 ·refine ⟨fun x => if x = w.heap.size then some (.cells cs.toArray t (0, 0)) else none, h, by simp [blk0], b, fun x => ?_, fun x o e => ?_, fun x o e => ?_⟩
  ·by_cases hx : x = w.heap.size
   ·subst hx; exact .inr hs
   ·left; simp [hx]
  ·by_cases hx : x = w.heap.size
   ·simp only [hx, if_true] at e ⊢; exact e
   ·simp [hx] at e
  ·have : x ≠ w.heap.size := by rintro rfl; rw [hs] at e; cases e
   simp [this, e]
theorem row_of_blk0 {b : Nat} {t : TypeId} {cs : List Value} : Imp (blk0 b t cs) (rdA (some ⟨b, 0, none⟩) cs) := fun h e => by
 by_cases hn : cs = []
 ·exact .inl hn
 ·exact .inr ⟨b, 0, t, cs.toArray, (0, 0), rfl, e, fun i v hv => by simpa using hv⟩
class PickB0 (l : List HProp) (b : Nat) (t : outParam TypeId) (cs : outParam (List Value)) (r : outParam (List HProp)) : Prop where out : l.Perm (blk0 b t cs :: r)
instance (priority := 2000) PickB0.here (b : Nat) (t : TypeId) (cs : List Value) (r : List HProp) : PickB0 (blk0 b t cs :: r) b t cs r := ⟨List.Perm.refl _⟩
instance (priority := 1000) PickB0.there (b : Nat) (t : TypeId) (cs : List Value) (B : HProp) (l r : List HProp) [h : PickB0 l b t cs r] : PickB0 (B :: l) b t cs (B :: r) := ⟨(List.Perm.cons B h.out).trans (List.Perm.swap (Slk.blk0 b t cs) B r)⟩
theorem SrcIs.blk0 {D : Nat → Prop} {w0 : World} {l : List HProp} {b : Nat} {t : TypeId} {cs : List Value} {r : List HProp} [h : PickB0 l b t cs r] : SrcIs D w0 l (some ⟨b, 0, none⟩) cs := SrcIs.ofImp h.out row_of_blk0 (fun _ => rfl)
theorem SrcIs.blkAt' {D : Nat → Prop} {w0 : World} {l : List HProp} {b : Nat} {t : TypeId} {cs : List Value} {r : List HProp} [h : PickB l b t cs r] (off : Nat) {news : List Value} (hn : ∀ i v, news[i]? = some v → cs[off + i]? = some v) : SrcIs D w0 l (some ⟨b, off, none⟩) news :=
 ⟨fun _ => rfl, fun _ => show CellsAre D w0 l b off news from CellsAre.blk hn⟩
theorem mid_get {a news c : List Value} : ∀ i v, news[i]? = some v → (a ++ news ++ c)[a.length + i]? = some v := fun i v hv => by
 have hi : i < news.length := by
  rcases Nat.lt_or_ge i news.length with h | h
  ·exact h
  ·rw [List.getElem?_eq_none h] at hv; cases hv
 rw [List.append_assoc, List.getElem?_append_right Z64, Nat.add_sub_cancel_left, List.getElem?_append_left hi]
 exact hv
theorem row_split {A : Option Addr} {t : TypeId} {sz n cap : Nat} {cs : List Value} {h : Heap} (k : row A t sz n cap cs h) (hne : 0 < cs.length) : ∃ b pre rest, A = some ⟨b, pre.length, none⟩ ∧ cs.length = n * sz ∧ n ≤ cap ∧ cap ≤ 9223372036854775807 ∧ (cap - n) * sz ≤ rest.length ∧ blk b t (pre ++ cs ++ rest) h := by
 obtain ⟨q1, q2, qm, q3⟩ := k
 rcases q3 with ⟨rfl, q⟩ | ⟨b, pre, rest, rfl, q5, q6⟩
 ·have : n = 0 := by omega
  subst this
  simp at q1
  rw [q1] at hne
  simp at hne
 ·exact ⟨b, pre, rest, rfl, q1, q2, qm, q5, q6⟩
section
variable {P : Program} {Q : Post} {D : Nat → Prop} {w0 : World} {n : Nat} {env : Slots} {l r : List HProp} {ops : Array Oper} {A : Option Addr} {t : TypeId} {sz m cap : Nat} {cs : List Value}
theorem Own.rowSplit {w : World} (H : Own D w0 w (row A t sz m cap cs :: l)) (hne : 0 < cs.length) : ∃ b pre rest, A = some ⟨b, pre.length, none⟩ ∧ cs.length = m * sz ∧ m ≤ cap ∧ cap ≤ 9223372036854775807 ∧ (cap - m) * sz ≤ rest.length ∧ Own D w0 w (blk b t (pre ++ cs ++ rest) :: l) := by
 obtain ⟨h, a, h1, h2, q, d, d2, s1, s2⟩ := H.own
 obtain ⟨b, pre, rest, e, e1, e2, e3, e4, e5⟩ := row_split q hne
 exact ⟨b, pre, rest, e, e1, e2, e3, e4, ⟨H.os, H.tape, H.output, H.size, H.old, h, a, h1, h2, e5, d, d2, s1, s2⟩⟩
theorem HC.rowOpen (A : Option Addr) [hp : PickR l A t sz m cap cs r] {c : Code} (hne : 0 < cs.length) (k : ∀ b pre rest, A = some ⟨b, pre.length, none⟩ → cs.length = m * sz → m ≤ cap → cap ≤ 9223372036854775807 → (cap - m) * sz ≤ rest.length → HC P Q D w0 n env (blk b t (pre ++ cs ++ rest) :: r) c) : HC P Q D w0 n env l c := .mk fun a w S => by
 obtain ⟨b, pre, rest, e, e1, e2, e3, e4, e5⟩ := Own.rowSplit (S.own.ent (Ent.perm hp.out)) hne
 exact (k b pre rest e e1 e2 e3 e4).run a w ⟨S.env, e5⟩
theorem HL.rowOpen (A : Option Addr) [hp : PickR l A t sz m cap cs r] {c : List Oper} (hne : 0 < cs.length) (k : ∀ b pre rest, A = some ⟨b, pre.length, none⟩ → cs.length = m * sz → m ≤ cap → cap ≤ 9223372036854775807 → (cap - m) * sz ≤ rest.length → HL P ops Q D w0 n env (blk b t (pre ++ cs ++ rest) :: r) c) : HL P ops Q D w0 n env l c := .mk fun a w S => by
 obtain ⟨b, pre, rest, e, e1, e2, e3, e4, e5⟩ := Own.rowSplit (S.own.ent (Ent.perm hp.out)) hne
 exact (k b pre rest e e1 e2 e3 e4).run a w ⟨S.env, e5⟩
end
theorem Ent.row_blk {b : Nat} {t : TypeId} {sz n cap : Nat} {pre cs rest : List Value} {l : List HProp} (h1 : cs.length = n * sz) (h2 : n ≤ cap) (h3 : cap ≤ 9223372036854775807) (h4 : (cap - n) * sz ≤ rest.length) : Ent (blk b t (pre ++ cs ++ rest) :: l) (row (some ⟨b, pre.length, none⟩) t sz n cap cs :: l) :=
 Ent.head fun h hb => ⟨h1, h2, h3, .inr ⟨b, pre, rest, rfl, h4, hb⟩⟩
theorem Ent.row_take {A : Option Addr} {t : TypeId} {sz n cap : Nat} {cs : List Value} {l : List HProp} (k : Nat) (hk : k ≤ n) : Ent (row A t sz n cap cs :: l) (row A t sz k cap (cs.take (k * sz)) :: l) := Ent.head fun h ⟨h1, h2, h3, h4⟩ => by
 have hm : k * sz ≤ n * sz := Nat.mul_le_mul_right _ hk
 refine ⟨by rw [List.length_take, h1, Nat.min_eq_left hm], by omega, h3, ?_⟩
 rcases h4 with h4 | ⟨b, pre, rest, e, h5, h6⟩
 ·exact .inl h4
 ·refine .inr ⟨b, pre, cs.drop (k * sz) ++ rest, e, ?_, ?_⟩
  ·rw [List.length_append, List.length_drop, h1]
   have e1 : (cap - k) * sz = (cap - n) * sz + (n - k) * sz := by rw [← Nat.add_mul]; congr 1; omega
   have e2 : (n - k) * sz = n * sz - k * sz := Nat.sub_mul _ _ _
   omega
  ·have : pre ++ cs.take (k * sz) ++ (cs.drop (k * sz) ++ rest) = pre ++ cs ++ rest := by
    rw [List.append_assoc, ← List.append_assoc (cs.take _), List.take_append_drop, List.append_assoc]
   rw [this]; exact h6
section
variable {P : Program} {D : Nat → Prop} {w0 : World} {env : Slots} {l : List HProp} {dst : Option Tmp} {ty : TypeId} {pos : String} {after : Array Edge} {g : Option (Nat × Bool)}
theorem on_buildSlice0 {t e : TypeId} {s bb m : Nat} {z : List Value} [h : TySlice P t e] [hs : TyI P e s bb z] {parts : List (Nat × Operand)} {vs : List (Nat × Value)} {res : List Value} (hv : evalP env parts = some vs) (hm : Nat.ble (m * s) 16777216 = true) (hf : fillL (fun i => some (i * s, s)) (zerosL z m) vs = some res) :
  OpNew P D w0 env l ⟨dst, .buildSlice t m parts.toArray, ty, pos, after, g⟩ (fun b : Nat => .slice (some ⟨b, 0, none⟩) m m) (fun b => blk0 b e res :: l) := .mk fun n a w E H => by
 have hz := hs.len
 obtain ⟨v, hz1, hz2⟩ := run_zero (P := P) (t := e) w
 have e1 : (parts.map fun p => (p.1, a.eval p.2)) = vs := E.evalsP hv
 have hm' : m * s ≤ 16777216 := by simpa using hm
 refine ⟨w.heap.size, w.alloc (.cells res.toArray e), .inl ?_, H.alloc0 e res⟩
 have hfill := fill_eq (fun i => some (i * s, s)) vs _ res hf
 have hsz : v.cells.size = s := by rw [← Array.length_toList, hz2, hz]
 by_cases h0 : m * s = 0
 ·have hzz : zerosL z m = [] := by
   rcases Nat.mul_eq_zero.1 h0 with h | h
   ·simp [zerosL, h]
   ·have : z = [] := List.eq_nil_of_length_eq_zero Z64
    simp [zerosL, this]
  rw [hzz] at hfill
  have hgt : ¬ (m * s > 2 ^ 24) := by omega
  simp only [execOp, Instr.buildSlice, Sem.run_bind, run_underlying h.out, Result.andThen_ok, run_sizeOf (P := P) (t := e)]
  rw [if_neg hgt, if_pos h0]
  have hr0 : ∀ f : Nat → Value, Array.map f (Array.range (m * s)) = #[] := fun f => by rw [h0]; apply Array.ext'; simp
  simp only [hr0, Sem.run_pure, Result.andThen_ok]
  simp [e1, hfill, newRow]
 ·have hzz := zeros_eq v.cells m
  rw [hz2] at hzz
  have hgt : ¬ (m * s > 2 ^ 24) := by omega
  simp only [execOp, Instr.buildSlice, Sem.run_bind, run_underlying h.out, Result.andThen_ok, run_sizeOf (P := P) (t := e)]
  rw [if_neg hgt, if_neg h0]
  have hz3 : (Array.range (m * s)).map (fun i => v.cells[i % v.cells.size]!) = (zerosL z m).toArray := by
   apply Array.ext'
   rw [← hzz, hsz]
  simp [hz1, e1, hz3, hfill, newRow]
theorem on_buildSlice0N {t e : TypeId} {s bb m : Nat} {z : List Value} [h : TySlice P t e] [hs : TyI P e s bb z] {parts : List (Nat × Operand)} {vs : List (Nat × Value)} {res : List Value} (hv : evalP env parts = some vs) (hm : Nat.ble (m * s) 16777216 = true) (hf : bindN (fillL (fun i => some (i * s, s)) (zerosL z m) vs) = some res) :
  OpNew P D w0 env l ⟨dst, .buildSlice t m parts.toArray, ty, pos, after, g⟩ (fun b : Nat => .slice (some ⟨b, 0, none⟩) m m) (fun b => blk0 b e res :: l) := on_buildSlice0 hv hm (bindN_eq hf)
theorem run_firstCellsD {B : Option Addr} {news : List Value} {n m s capB : Nat} {w : World} (hl : news.length = n * s) (hmn : n ≤ m) (hA : news ≠ [] → isA B) (hc : news ≠ [] → ∀ i v, news[i]? = some v → w.cell? ⟨ab B, ao B + i, none⟩ = some v) :
  (Builtin.firstCells s n (.slice B m capB)).run P w = .ok news.toArray w := by
 by_cases hne : news = []
 ·subst hne
  have h0 : n * s = 0 := by simpa using hl.symm
  cases B with
  | none => simp [Builtin.firstCells]
  | some a => simp [Builtin.firstCells, loadCells, h0, loadCellsFrom]
 ·have h1 := hA hne
  rw [h1]
  exact run_firstCells_some w s n ⟨ab B, ao B, none⟩ m capB news hl (fun j v hj => by rw [add_lit']; exact hc hne j v hj)
theorem on_appendZr {t e ti : TypeId} {s bb : Nat} {z : List Value} [h : TySlice P t e] [hs : TyI P e s bb z] [hi : TyInt P ti .i64] {x y : Operand} {A : Option Addr} {n cap m : Nat} {j : Int} {cs : List Value} (hx : evalO env x = some (.slice A n cap)) (hy : evalO env y = some (.int .i64 j)) (hj : j = m) (hsrc : SrcIs D w0 l A cs) (hcs : cs.length = n * s) (hm : 0 < m) (hcap : ¬ n + m ≤ cap) (hs0 : 0 < s) (hb0 : 0 < bb) (hb : (n + m) * bb ≤ 140737488355328) :
  OpNew P D w0 env l ⟨dst, .call ⟨.builtin .append, #[x, y], #[t, ti]⟩, ty, pos, after, g⟩ (fun p : Option Addr × Nat => .slice p.1 (n + m) p.2) (fun p => row p.1 e s (n + m) p.2 (cs ++ zerosL z m) :: l) := .mk fun n' a w E H => by
 subst hj
 have hz := hs.len
 suffices hrun : ∃ p : Option Addr × Nat, ∃ w', (Builtin.append_ #[t, ti] ty #[.slice A n cap, .int .i64 m]).run P w = .ok (.slice p.1 (n + m) p.2) w' ∧ Own D w0 w' (row p.1 e s (n + m) p.2 (cs ++ zerosL z m) :: l) by
  obtain ⟨p, w', hr, hO⟩ := hrun
  refine ⟨p, w', .inl ?_, hO⟩
  simp [execOp, resolve, invoke, builtin, E.eval hx, E.eval hy, hr]
 obtain ⟨i, hi', hi1, hi2, zv, hi3, hi4⟩ := run_info (P := P) (t := e)
 have hzs : zv.cells.size = s := by rw [← Array.length_toList, hi4, hz]
 have hneed : n + m ≤ 140737488355328 := Nat.le_trans (Nat.le_mul_of_pos_right _ hb0) hb
 have hcapge : n + m ≤ grownCap w (n + m) cap e := by
  unfold grownCap Question.cut
  exact Nat.le_add_right _ _
 have hcaple : grownCap w (n + m) cap e ≤ 9223372036854775807 := by
  unfold grownCap Question.cut
  have h2 : (2 : Nat) ^ 63 = 9223372036854775808 := by decide
  have := Nat.mod_lt (w.tape w.drawn (.appendCap (n + m) cap e)) (show 0 < 2 ^ 63 - (n + m) by rw [h2]; omega)
  simp only
  rw [h2] at this ⊢
  omega
 have hzl : ∀ k, (zerosL z k).length = k * s := fun k => by rw [zerosL_length, hz]
 have hfo : (Builtin.firstCells s n (.slice A n cap)).run P w.drew = .ok cs.toArray w.drew := run_firstCells' hcs hsrc.isA (fun k => hsrc.cells k w.drew H.drew)
 refine ⟨(some ⟨w.heap.size, 0, none⟩, grownCap w (n + m) cap e), w.drew.alloc (.cells (cs ++ zerosL z m ++ zerosL z (grownCap w (n + m) cap e - (n + m))).toArray e), ?_, (H.drew.alloc e (cs ++ zerosL z m ++ zerosL z (grownCap w (n + m) cap e - (n + m)))).ent (Ent.head fun x hx => ?_)⟩
 ·have hne : ¬ (m = 0) := by omega
  have hms : ¬ (m * s = 0) := by
   have := Nat.mul_pos hm hs0
   omega
  have h63' : ¬ (9223372036854775807 < ((n : Int) + (m : Int))) := by omega
  have h48' : ¬ (281474976710656 < Builtin.nextslicecap (n + m) cap * i.bytes) := by
   have := growslice_fits (need := n + m) (old := cap) (bytes := bb) Z64 hb
   rw [hi2]; omega
  have hmb : m * bb ≤ (n + m) * bb := Nat.mul_le_mul_right _ Z64
  have h48'' : ¬ ((281474976710656 : Int) < (m : Int) * (i.bytes : Int)) := by
   rw [hi2]
   have : (m : Int) * (bb : Int) = ((m * bb : Nat) : Int) := by simp
   rw [this]; omega
  have hwr : IntKind.i64.wrap (m : Int) = m := wrap_i64 Z64
  have hzz : (Builtin.zeroCells zv.cells (grownCap w (n + m) cap e - (n + m))) = (zerosL z (grownCap w (n + m) cap e - (n + m))).toArray := by
   apply Array.ext'; rw [zeroCells_eq, hi4]
  have hz2 : (Builtin.zeroCells zv.cells m) = (zerosL z m).toArray := by
   apply Array.ext'; rw [zeroCells_eq, hi4]
  have hs' : i.size ≠ 0 := by omega
  have hms2 : ¬ (m * i.size = 0) := by rw [hi1]; exact hms
  have hng : ¬ ((m : Int) < 0) := by omega
  simp [Builtin.append_, run_underlying h.out, run_underlying hi.out, asInt, asIntOf, hwr, hng, hms2, Go.sizeOf, typeInfo, zeroValue, hi', hi3, Builtin.lenOf, hne, hms, hs', h63', h48', h48'', Question.forced, hcap]
  simp only [hi1, hfo, Result.andThen_ok]
  simp only [grownCap] at hzz
  simp [newRow, grownCap, hzz, hz2]
 ·refine ⟨by rw [List.length_append, hcs, hzl, Nat.add_mul], hcapge, hcaple, .inr ⟨w.heap.size, [], zerosL z (grownCap w (n + m) cap e - (n + m)), rfl, ?_, by simpa using hx⟩⟩
  show (grownCap w (n + m) cap e - (n + m)) * s ≤ _
  rw [hzl]; exact Nat.le_refl _
theorem on_copyD {t u e : TypeId} {s bb : Nat} {z : List Value} [h : TySlice P t e] [hs : TyI P e s bb z] {x y : Operand} {b off n cap m capB : Nat} {B : Option Addr} {et : TypeId} {cs news : List Value} {r : List HProp}
  (hx : evalO env x = some (.slice (some ⟨b, off, none⟩) n cap)) (hy : evalO env y = some (.slice B m capB)) [hp : PickB l b et cs r] (hsrc : SrcIs D w0 l B news) (hm : news.length = n * s) (hmn : n ≤ m) (ho : off + news.length ≤ cs.length) (h1 : ∀ v ∈ news, v.oneCell' = true) :
  OpNew P D w0 env l ⟨dst, .call ⟨.builtin .copy, #[x, y], #[t, u]⟩, ty, pos, after, g⟩ (fun _ : Unit => .int .i64 n) (fun _ => blk b et (setSeg cs off news) :: r) := .mk fun n' a w E H => by
 have H' := H.ent (Ent.perm hp.out)
 have hf := run_firstCellsD (P := P) (capB := capB) hm hmn hsrc.isA (fun k => hsrc.cells k w H)
 have hst := run_store_blk (P := P) H' off news ho h1
 refine ⟨(), w.setCells b off news, .inl ?_, Own.setCells news off H'⟩
 have hmin : Nat.min m n = n := Nat.min_eq_right hmn
 simp [execOp, resolve, invoke, builtin, E.eval hx, E.eval hy, Builtin.copy_, run_underlying h.out, Builtin.lenOf, hmin, run_sizeOf (P := P) (t := e), hf, hst, goInt]
theorem cut0 (c : Prop) [Decidable c] (A : Option Addr) (s : Nat) : (if c then A else A.map (·.add (0 * s))) = A := by
 split
 ·rfl
 ·cases A with
  | none => rfl
  | some a => simp [Addr.add]
theorem ov_sl {t e : TypeId} {s bb : Nat} {z : List Value} [h : TySlice P t e] [hs : TyI P e s bb z] {x : Operand} {ol oh : Option Operand} {A : Option Addr} {n cap : Nat} (R : Value) (hx : evalO env x = some (.slice A n cap)) (lo hi : Nat)
  (hl : (ol = none ∧ lo = 0) ∨ ∃ o k, ol = some o ∧ evalO env o = some (.int k lo)) (hh : (oh = none ∧ hi = n) ∨ ∃ o k, oh = some o ∧ evalO env o = some (.int k hi)) (h1 : lo ≤ hi) (h2 : hi ≤ cap) (hR : Value.slice (if cap = lo then A else A.map (·.add (lo * s))) (hi - lo) (cap - lo) = R) :
  OpVal P D w0 env l ⟨dst, .slice t x ol oh none, ty, pos, after, g⟩ R := hR ▸ ov_slice hx lo hi hl hh h1 h2
theorem ov_slTo {t e : TypeId} {s bb : Nat} {z : List Value} [h : TySlice P t e] [hs : TyI P e s bb z] {x o : Operand} {A : Option Addr} {n cap : Nat} (hx : evalO env x = some (.slice A n cap)) (hi : Nat) {k : IntKind} (ho : evalO env o = some (.int k hi)) (h2 : hi ≤ cap) :
  OpVal P D w0 env l ⟨dst, .slice t x none (some o) none, ty, pos, after, g⟩ (.slice A hi cap) := ov_sl _ hx 0 hi (.inl ⟨rfl, rfl⟩) (.inr ⟨_, _, rfl, ho⟩) (Nat.zero_le _) h2 (by rw [cut0]; rfl)
theorem ov_slFrom {t e : TypeId} {s bb : Nat} {z : List Value} [h : TySlice P t e] [hs : TyI P e s bb z] {x o : Operand} {b off n cap : Nat} (hx : evalO env x = some (.slice (some ⟨b, off, none⟩) n cap)) (lo : Nat) {k : IntKind} (ho : evalO env o = some (.int k lo)) (h1 : lo ≤ n) (h2 : n ≤ cap) (h3 : lo < cap) :
  OpVal P D w0 env l ⟨dst, .slice t x (some o) none none, ty, pos, after, g⟩ (.slice (some ⟨b, off + lo * s, none⟩) (n - lo) (cap - lo)) := ov_sl _ hx lo n (.inr ⟨_, _, rfl, ho⟩) (.inl ⟨rfl, rfl⟩) h1 h2 (by rw [if_neg Z64]; simp [add_lit'])
theorem ov_append0 {t e : TypeId} {s bb : Nat} {z : List Value} [h : TySlice P t e] [hs : TyI P e s bb z] {x y : Operand} {A B : Option Addr} {n cap capB : Nat} (hx : evalO env x = some (.slice A n cap)) (hy : evalO env y = some (.slice B 0 capB)) (hn : n ≤ cap) :
  OpVal P D w0 env l ⟨dst, .call ⟨.builtin .append, #[x, y], #[t, t]⟩, ty, pos, after, g⟩ (.slice A n cap) := .mk fun n' a w E H => by
 have hf := run_firstCells' (P := P) (B := B) (news := []) (m := 0) (s := s) (capB := capB) (w := w) (by simp) (fun k => absurd rfl k) (fun k => absurd rfl k)
 cases A with
 | none => simp [execOp, resolve, invoke, builtin, E.eval hx, E.eval hy, Builtin.append_, run_underlying h.out, run_sizeOf (P := P) (t := e), Builtin.lenOf, hf, hn]
 | some b => simp [execOp, resolve, invoke, builtin, E.eval hx, E.eval hy, Builtin.append_, run_underlying h.out, run_sizeOf (P := P) (t := e), Builtin.lenOf, hf, hn, storeCells]
theorem on_clear {t e : TypeId} {s bb : Nat} {z : List Value} [h : TySlice P t e] [hs : TyI P e s bb z] {x : Operand} {b off n cap : Nat} {et : TypeId} {cs : List Value} {r : List HProp}
  (hx : evalO env x = some (.slice (some ⟨b, off, none⟩) n cap)) [hp : PickB l b et cs r] (h0 : 0 < n) (ho : off + n * s ≤ cs.length) (h1 : ∀ v ∈ z, v.oneCell' = true) :
  OpNew P D w0 env l ⟨dst, .call ⟨.builtin .clear, #[x], #[t]⟩, ty, pos, after, g⟩ (fun _ : Unit => .tuple #[]) (fun _ => blk b et (setSeg cs off (zerosL z n)) :: r) := .mk fun n' a w E H => by
 have H' := H.ent (Ent.perm hp.out)
 have hz := hs.len
 obtain ⟨v, hz1, hz2⟩ := run_zero (P := P) (t := e) w
 have hone : ∀ v ∈ zerosL z n, v.oneCell' = true := fun v hv => by
  unfold zerosL at hv
  obtain ⟨l, hl, hv⟩ := List.mem_flatten.1 hv
  rw [List.eq_of_mem_replicate hl] at hv
  exact h1 v hv
 have hst := run_store_blk (P := P) H' off (zerosL z n) (by rw [zerosL_length, hz]; exact ho) hone
 refine ⟨(), w.setCells b off (zerosL z n), .inl ?_, Own.setCells _ off H'⟩
 have hzz : (Builtin.zeroCells v.cells n).toList = zerosL z n := by rw [zeroCells_eq, hz2]
 obtain ⟨k, rfl⟩ : ∃ k, n = k + 1 := ⟨n - 1, by omega⟩
 simp [execOp, resolve, invoke, builtin, E.eval hx, Builtin.clear_, run_underlying h.out, hz1, hzz, hst]
theorem ov_clear0 {t e : TypeId} [h : TySlice P t e] {x : Operand} {A : Option Addr} {cap : Nat} (hx : evalO env x = some (.slice A 0 cap)) :
  OpNew P D w0 env l ⟨dst, .call ⟨.builtin .clear, #[x], #[t]⟩, ty, pos, after, g⟩ (fun _ : Unit => .tuple #[]) (fun _ => l) := .mk fun n' a w E H => by
 refine ⟨(), w, .inl ?_, H⟩
 cases A <;> simp [execOp, resolve, invoke, builtin, E.eval hx, Builtin.clear_, run_underlying h.out]
theorem ov_callv {f : Nat} {args : List Operand} {ats : Array TypeId} {vs : List Value} {v : Value} (hv : evalL env args = some vs) (hc : ∀ w, Own D w0 w l → (callFunc f vs.toArray).run P w = .ok (.value v) w) :
  OpVal P D w0 env l ⟨dst, .call ⟨.value (.func f), args.toArray, ats⟩, ty, pos, after, g⟩ v := .mk fun n' a w E H => by
 simp [execOp, resolve, Deferred.ofValue, Act.eval, invoke, E.evals hv, hc w H]
end
theorem run_ovl {P : Program} {f : Nat} {fn : Func} {tS tR e : TypeId} (hf : P.funcs[f]? = some fn) (h1 : (fn.name == "runtime.NumGoroutine") = false) (h2 : fn.body.isNone = true) (h3 : Extern.findNext fn = none) (h4 : Extern.find fn = some (Extern.SlicesOverlaps.overlaps #[tS, tS] #[tR])) [ht : TySlice P tS e] {s bb : Nat} {z : List Value} [hs : TyI P e s bb z]
  {D : Nat → Prop} {w0 w : World} {l r1 r2 : List HProp} {bx b off la ca lb cb : Nat} {tx tb : TypeId} {csx csb : List Value} (H : Own D w0 w l) [p1 : PickB0 l bx tx csx r1] [p2 : PickB r1 b tb csb r2] (hx : 0 < csx.length) (hb : 0 < csb.length) :
  (callFunc f #[.slice (some ⟨bx, 0, none⟩) la ca, .slice (some ⟨b, off, none⟩) lb cb]).run P w = .ok (.value (.bool false)) w := by
 obtain ⟨h, a, hs2⟩ := (H.ent (Ent.perm (p1.out.trans (List.Perm.cons _ p2.out)))).own
 obtain ⟨g1, g2, q1, ⟨g3, g4, ⟨fr, q2, _⟩, _, _, s3, _⟩, d, s1, s2⟩ := hs2
 have e1 : w.heap[bx]? = some (.cells csx.toArray tx (0, 0)) := (a _ _ (s1 _ _ q1)).1
 have e2 : w.heap[b]? = some (.cells csb.toArray tb fr) := (a _ _ (s2 _ _ (s3 _ _ q2))).1
 have hne : bx ≠ b := by
  rintro rfl
  rcases d bx with k | k
  ·have q1 : g1 bx = _ := q1
   rw [q1] at k; cases k
  ·rw [s3 _ _ q2] at k; cases k
 rw [run_callFunc_extern hf h1 h2 h3 h4, Lib.run_overlaps_apart w tS tR e ht.out s (fun w => run_sizeOf w) ⟨bx, 0, none⟩ ⟨b, off, none⟩ la ca lb cb hne tx tb csx.length csb.length (by simp [World.shape?, e1]) (by simp [World.shape?, e2]) Z64 (by simp [World.frozen?, e1]) (by simp [World.frozen?, e1])]
 rfl
theorem flat_set1 {α : Type} {f : α → List Value} {sz : Nat} (hf : ∀ x, (f x).length = sz) : ∀ (xs : List α) (i j : Nat) (y : α) (c : Value) (hi : i < xs.length), j < sz → f y = (f xs[i]).set j c → (xs.flatMap f).set (i * sz + j) c = (xs.set i y).flatMap f
 | x :: r, 0, j, y, c, _, hj, h => by
  rw [List.flatMap_cons, List.set_cons_zero, List.flatMap_cons, Nat.zero_mul, Nat.zero_add, List.set_append_left _ _ (by rw [hf]; exact hj), h]; rfl
 | x :: r, i + 1, j, y, c, hi, hj, h => by
  rw [List.flatMap_cons, List.set_cons_succ, List.flatMap_cons, List.set_append_right _ _ Z42, hf, show (i + 1) * sz + j - sz = i * sz + j by rw [Nat.add_mul]; omega]
  rw [flat_set1 hf r i j y c (by simpa using hi) hj h]
theorem on_storeRX {P : Program} {D : Nat → Prop} {w0 : World} {env : Slots} {l : List HProp} {dst : Option Tmp} {ty : TypeId} {pos : String} {after : Array Edge} {g : Option (Nat × Bool)} {t e : TypeId} {bb sz n cap off : Nat} {z : List Value} [h : TyI P t 1 bb z] {x y : Operand} {A : Option Addr} {cs : List Value} {r : List HProp} {v : Value} (o : Nat) (cs' : List Value) (hx : evalO env x = some (.pointer (some ⟨ab A, off, none⟩))) (hy : evalO env y = some v) (hoff : off = ao A + o) [hp : PickR l A e sz n cap cs r] (ho : o < cs.length) (h1 : v.oneCell' = true) (hn : cs.set o v = cs') :
  OpNew P D w0 env l ⟨dst, .store t x y, ty, pos, after, g⟩ (fun _ : Unit => undef) (fun _ => row A e sz n cap cs' :: r) := on_storeRE cs' (hoff ▸ hx) hy ho h1 hn
section
variable {P : Program} {Q : Post} {D : Nat → Prop} {w0 : World} {n : Nat} {env : Slots} {l L0 : List HProp} {fuel : Nat} {listed : Array Bool} {rl : List Oper}
theorem ho_ent {ops : Array Oper} {i : Nat} {l' : List HProp} (hE : Ent l l') (h : HO P ops Q D w0 n env l' L0 i fuel listed) : HO P ops Q D w0 n env l L0 i fuel listed := .mk fun a w S => h.run a w ⟨S.env, S.own.ent hE⟩
theorem ho_kv {i : Nat} {d f : Nat} {fx : Operand} {fs cs : List Value} {args : List Operand} {ats : Array TypeId} {ty : TypeId} {pos : String} {after : Array Edge} {gd : Option (Nat × Bool)} (hi : opAt rl i = some ⟨some d, .call ⟨.value fx, args.toArray, ats⟩, ty, pos, after, gd⟩) {vs : List Value} {v : Value} {l' : List HProp} (hf : evalO env fx = some (.func (.func f) fs.toArray cs.toArray)) (hcf : ∀ args w, (callFunc f args).run P w = .ok (.enter f args) w)
  (hv : evalL env args = some vs) (hc : ∀ w, Own D w0 w l → Calls P f (fs ++ vs ++ cs).toArray w fun e w' => e = .returned v ∧ Own D w0 w' l')
  (k : HA P rl.toArray Q D w0 n ((d, v) :: env) l' L0 fuel (listed.setIfInBounds i true)) (hg : guardIs rl.toArray env gd = some true := by rfl) (hn : Nat.blt d n = true := by rfl)
  (hE : Ent l' L0 := by first | assumption | exact Ent.refl _ | exact Ent.nil _ | (repeat (first | exact Ent.refl _ | exact Ent.nil _ | refine Ent.pick ?_))) : HO P rl.toArray Q D w0 n env l L0 i fuel listed := .mk fun a w S => by
 unfold wpOp
 simp only [opAt_eq hi]
 rw [if_pos (guardIs_eq (o := ⟨some d, .call ⟨.value fx, args.toArray, ats⟩, ty, pos, after, gd⟩) hg S.env)]
 left
 unfold Oper.wp
 have hrun : (execOp a.eval ⟨some d, .call ⟨.value fx, args.toArray, ats⟩, ty, pos, after, gd⟩).run P w = .ok (.enter f (fs ++ vs ++ cs).toArray) w := by
  simp [execOp, resolve, Deferred.ofValue, S.env.eval hf, invoke, S.env.evals hv, hcf]
 rw [hrun, Oper.upon_enter]
 refine (hc w S.own).mono fun e w' ⟨he, H⟩ => ?_
 subst he
 exact ⟨H.ent hE, k.run _ w' ⟨S.env.put hn _, H⟩⟩
end
end Slk

namespace Go.Proofs.YtjlolpmmpafjeaaGreat
open Slk
theorem mixed : Tryz.prog.follows .mixedOrders = true := by kernel_rfl
end Go.Proofs.YtjlolpmmpafjeaaGreat

set_option linter.unusedVariables false
set_option linter.unusedSimpArgs false
namespace Go.Proofs.YtjlolpmmpafjeaaGreat
open Slk
end Go.Proofs.YtjlolpmmpafjeaaGreat

set_option linter.unusedVariables false
set_option linter.unusedSimpArgs false
namespace Go.Proofs.YtjlolpmmpafjeaaGreat
open Slk
theorem Clone_spec (D : Nat → Prop) (w : World) (v : Value) (xs : List UInt8) (hl : xs.length ≤ 1000000) (HA : Old D w (Rep.rep xs [v])) :
  Calls Tryz.prog 81 #[v] w fun e w' => ∃ q : Option Addr × Nat, e = .returned (.slice q.1 xs.length q.2) ∧ Own D w w' [row q.1 5 1 xs.length q.2 (xs.map u8v)] := by
 obtain ⟨A, cap, rfl, hc1, hc2, HS⟩ := HA.openB
 refine hc_enter (vs := [.slice A xs.length cap]) Tryz.func81 rfl _ Tryz.ntmps81 rfl (Own.start D w) ?_
 simp only [argSlots, Nat.zero_add]
 cases A with
 | none =>
  have hx : xs = [] := by
   cases xs with
   | nil => rfl
   | cons a r => have := HS.isA (by simp); cases this
  subst hx
  repeat (first | refine hc_seq ?_ | refine hc_region ?_ | refine hx_then_normal ?_ | refine hc_block ?_ | refine hc_skip ?_ | refine hc_ret ?_ | refine hc_exit ?_ | refine hx_then_ret ?_ | refine hx_then_exit ?_ | refine hx_block_normal ?_ | refine hx_block_ret ?_ | refine hx_block_out ?_ | refine hx_block_on rfl ?_ | refine hl_nil ?_ | refine hl_val Z0 rfl rfl rfl ?_ | refine hl_new (on_alloc) rfl rfl rfl (fun _ => ?_) | refine hl_new (on_buildSliceN rfl rfl rfl) rfl rfl rfl (fun _ => ?_) | refine hl_u0 (on_storeN rfl rfl rfl rfl rfl) rfl rfl ?_ | refine hl_u0 (on_storeGN rfl rfl rfl rfl rfl rfl) rfl rfl ?_ | refine hl_u (on_mark rfl) rfl rfl rfl ?_ | refine hl_on rfl rfl ?_ | refine hl_off rfl rfl rfl rfl rfl rfl ?_)
  refine hl_val (ov_eqlN rfl rfl) rfl rfl rfl ?_
  repeat (first | refine hc_seq ?_ | refine hc_region ?_ | refine hx_then_normal ?_ | refine hc_block ?_ | refine hc_skip ?_ | refine hc_ret ?_ | refine hc_exit ?_ | refine hx_then_ret ?_ | refine hx_then_exit ?_ | refine hx_block_normal ?_ | refine hx_block_ret ?_ | refine hx_block_out ?_ | refine hx_block_on rfl ?_ | refine hl_nil ?_ | refine hl_val Z0 rfl rfl rfl ?_ | refine hl_new (on_alloc) rfl rfl rfl (fun _ => ?_) | refine hl_new (on_buildSliceN rfl rfl rfl) rfl rfl rfl (fun _ => ?_) | refine hl_u0 (on_storeN rfl rfl rfl rfl rfl) rfl rfl ?_ | refine hl_u0 (on_storeGN rfl rfl rfl rfl rfl rfl) rfl rfl ?_ | refine hl_u (on_mark rfl) rfl rfl rfl ?_ | refine hl_on rfl rfl ?_ | refine hl_off rfl rfl rfl rfl rfl rfl ?_)
  refine hc_cond_true rfl ?_
  repeat (first | refine hc_seq ?_ | refine hc_region ?_ | refine hx_then_normal ?_ | refine hc_block ?_ | refine hc_skip ?_ | refine hc_ret ?_ | refine hc_exit ?_ | refine hx_then_ret ?_ | refine hx_then_exit ?_ | refine hx_block_normal ?_ | refine hx_block_ret ?_ | refine hx_block_out ?_ | refine hx_block_on rfl ?_ | refine hl_nil ?_ | refine hl_val Z0 rfl rfl rfl ?_ | refine hl_new (on_alloc) rfl rfl rfl (fun _ => ?_) | refine hl_new (on_buildSliceN rfl rfl rfl) rfl rfl rfl (fun _ => ?_) | refine hl_u0 (on_storeN rfl rfl rfl rfl rfl) rfl rfl ?_ | refine hl_u0 (on_storeGN rfl rfl rfl rfl rfl rfl) rfl rfl ?_ | refine hl_u (on_mark rfl) rfl rfl rfl ?_ | refine hl_on rfl rfl ?_ | refine hl_off rfl rfl rfl rfl rfl rfl ?_)
  exact results_1 (.inr rfl) rfl rfl fun w' H' => ⟨(none, 0), rfl, H'.ent (Ent.nil_row _ _)⟩
 | some A =>
  repeat (first | refine hc_seq ?_ | refine hc_region ?_ | refine hx_then_normal ?_ | refine hc_block ?_ | refine hc_skip ?_ | refine hc_ret ?_ | refine hc_exit ?_ | refine hx_then_ret ?_ | refine hx_then_exit ?_ | refine hx_block_normal ?_ | refine hx_block_ret ?_ | refine hx_block_out ?_ | refine hx_block_on rfl ?_ | refine hl_nil ?_ | refine hl_val Z0 rfl rfl rfl ?_ | refine hl_new (on_alloc) rfl rfl rfl (fun _ => ?_) | refine hl_new (on_buildSliceN rfl rfl rfl) rfl rfl rfl (fun _ => ?_) | refine hl_u0 (on_storeN rfl rfl rfl rfl rfl) rfl rfl ?_ | refine hl_u0 (on_storeGN rfl rfl rfl rfl rfl rfl) rfl rfl ?_ | refine hl_u (on_mark rfl) rfl rfl rfl ?_ | refine hl_on rfl rfl ?_ | refine hl_off rfl rfl rfl rfl rfl rfl ?_)
  refine hl_val (ov_eqlN rfl rfl) rfl rfl rfl ?_
  repeat (first | refine hc_seq ?_ | refine hc_region ?_ | refine hx_then_normal ?_ | refine hc_block ?_ | refine hc_skip ?_ | refine hc_ret ?_ | refine hc_exit ?_ | refine hx_then_ret ?_ | refine hx_then_exit ?_ | refine hx_block_normal ?_ | refine hx_block_ret ?_ | refine hx_block_out ?_ | refine hx_block_on rfl ?_ | refine hl_nil ?_ | refine hl_val Z0 rfl rfl rfl ?_ | refine hl_new (on_alloc) rfl rfl rfl (fun _ => ?_) | refine hl_new (on_buildSliceN rfl rfl rfl) rfl rfl rfl (fun _ => ?_) | refine hl_u0 (on_storeN rfl rfl rfl rfl rfl) rfl rfl ?_ | refine hl_u0 (on_storeGN rfl rfl rfl rfl rfl rfl) rfl rfl ?_ | refine hl_u (on_mark rfl) rfl rfl rfl ?_ | refine hl_on rfl rfl ?_ | refine hl_off rfl rfl rfl rfl rfl rfl ?_)
  refine hc_cond_false rfl ?_
  repeat (first | refine hc_seq ?_ | refine hc_region ?_ | refine hx_then_normal ?_ | refine hc_block ?_ | refine hc_skip ?_ | refine hc_ret ?_ | refine hc_exit ?_ | refine hx_then_ret ?_ | refine hx_then_exit ?_ | refine hx_block_normal ?_ | refine hx_block_ret ?_ | refine hx_block_out ?_ | refine hx_block_on rfl ?_ | refine hl_nil ?_ | refine hl_val Z0 rfl rfl rfl ?_ | refine hl_new (on_alloc) rfl rfl rfl (fun _ => ?_) | refine hl_new (on_buildSliceN rfl rfl rfl) rfl rfl rfl (fun _ => ?_) | refine hl_u0 (on_storeN rfl rfl rfl rfl rfl) rfl rfl ?_ | refine hl_u0 (on_storeGN rfl rfl rfl rfl rfl rfl) rfl rfl ?_ | refine hl_u (on_mark rfl) rfl rfl rfl ?_ | refine hl_on rfl rfl ?_ | refine hl_off rfl rfl rfl rfl rfl rfl ?_)
  refine HL.ent (Ent.blk_row 1 0 rfl Z63) ?_
  refine hl_new (on_appendR (news := xs.map u8v) rfl rfl (SrcIs.old HS) (by simp) (u8_one xs) Z63 Z64) rfl rfl rfl (fun p => ?_)
  simp only [Nat.zero_add, List.nil_append]
  repeat (first | refine hc_seq ?_ | refine hc_region ?_ | refine hx_then_normal ?_ | refine hc_block ?_ | refine hc_skip ?_ | refine hc_ret ?_ | refine hc_exit ?_ | refine hx_then_ret ?_ | refine hx_then_exit ?_ | refine hx_block_normal ?_ | refine hx_block_ret ?_ | refine hx_block_out ?_ | refine hx_block_on rfl ?_ | refine hl_nil ?_ | refine hl_val Z0 rfl rfl rfl ?_ | refine hl_new (on_alloc) rfl rfl rfl (fun _ => ?_) | refine hl_new (on_buildSliceN rfl rfl rfl) rfl rfl rfl (fun _ => ?_) | refine hl_u0 (on_storeN rfl rfl rfl rfl rfl) rfl rfl ?_ | refine hl_u0 (on_storeGN rfl rfl rfl rfl rfl rfl) rfl rfl ?_ | refine hl_u (on_mark rfl) rfl rfl rfl ?_ | refine hl_on rfl rfl ?_ | refine hl_off rfl rfl rfl rfl rfl rfl ?_)
  exact results_1 (.inr rfl) rfl rfl fun w' H' => ⟨p, rfl, H'⟩
end Go.Proofs.YtjlolpmmpafjeaaGreat
namespace Slk
open Go
section
variable {P : Program} {ops : Array Oper} {Q : Post} {D : Nat → Prop} {w0 : World} {n d : Nat} {env : Slots} {l : List HProp} {r : List Oper} {ty : TypeId} {pos : String} {after : Array Edge}
theorem zm {x : Operand} {v : Value} (hx : evalO env x = some v) (k : HL P ops Q D w0 n ((d, v) :: env) l r) (hn : Nat.blt d n = true := by rfl) : HL P ops Q D w0 n env l (⟨some d, .move x, ty, pos, after, none⟩ :: r) := hl_v (ov_move hx) rfl k rfl hn
theorem zs {x : Operand} {v : Value} (hx : evalO env x = some v) (k : HL P ops Q D w0 n ((d, v) :: env) l r) (hn : Nat.blt d n = true := by rfl) : HL P ops Q D w0 n env l (⟨some d, .assign x, ty, pos, after, none⟩ :: r) := hl_v (ov_assign hx) rfl k rfl hn
theorem zx {x : Operand} {i : Nat} {vs : Array Value} {v : Value} (hx : evalO env x = some (.tuple vs)) (hv : vs[i]? = some v) (k : HL P ops Q D w0 n ((d, v) :: env) l r) (hn : Nat.blt d n = true := by rfl) : HL P ops Q D w0 n env l (⟨some d, .extract x i, ty, pos, after, none⟩ :: r) := hl_v (ov_extract hx hv) rfl k rfl hn
theorem zf {s f o fz : Nat} {ft : TypeId} [h : TyF P s f o ft fz] {x : Operand} {b off : Nat} (hx : evalO env x = some (.pointer (some ⟨b, off, none⟩))) (k : HL P ops Q D w0 n ((d, .pointer (some ⟨b, off + o, none⟩)) :: env) l r) (hn : Nat.blt d n = true := by rfl) : HL P ops Q D w0 n env l (⟨some d, .fieldAddr s x f, ty, pos, after, none⟩ :: r) := hl_v (ov_fieldA hx) rfl k rfl hn
theorem zl {t : TypeId} [h : TyOne P t] {x : Operand} {b off : Nat} {v : Value} {tb : TypeId} {cs : List Value} {rr : List HProp} (hx : evalO env x = some (.pointer (some ⟨b, off, none⟩))) [hb : PickB l b tb cs rr] (hv : cs[off]? = some v) (k : HL P ops Q D w0 n ((d, v) :: env) l r) (hn : Nat.blt d n = true := by rfl) : HL P ops Q D w0 n env l (⟨some d, .load t x, ty, pos, after, none⟩ :: r) := hl_v (ov_load hx (CellIs.blk hv)) rfl k rfl hn
theorem zo {op : Op} {j t : Nat} {want b : Bool} (hj : guardSlot ops j = some t) (hv : Slots.get env t = some (.bool b)) (k : HL P ops Q D w0 n ((d, undef) :: env) l r) (hne : (b == want) = false := by rfl) (hn : Nat.blt d n = true := by rfl) : HL P ops Q D w0 n env l (⟨some d, op, ty, pos, after, some (j, want)⟩ :: r) := hl_off rfl hj hv hne rfl hn k
theorem zv {op : Op} {v : Value} (h : OpVal P D w0 env l ⟨some d, op, ty, pos, after, none⟩ v) (k : HL P ops Q D w0 n ((d, v) :: env) l r) (hn : Nat.blt d n = true := by rfl) : HL P ops Q D w0 n env l (⟨some d, op, ty, pos, after, none⟩ :: r) := hl_v h rfl k rfl hn
end
section
variable {P : Program} {D : Nat → Prop} {w0 : World} {env : Slots} {l : List HProp} {dst : Option Tmp} {ty : TypeId} {pos : String} {after : Array Edge} {g : Option (Nat × Bool)}
theorem zw {t : TypeId} [h : TyOne P t] {x : Operand} {b off : Nat} {v : Value} {tb : TypeId} {cs : List Value} {rr : List HProp} (hx : evalO env x = some (.pointer (some ⟨b, off, none⟩))) [hb : PickB l b tb cs rr] (hv : cs[off]? = some v) : OpVal P D w0 env l ⟨dst, .load t x, ty, pos, after, g⟩ v := ov_load hx (CellIs.blk hv)
end
set_option linter.defProp false
def zt := @hx_then_normal
def zr := @hx_then_ret
def ze := @hx_then_exit
def zb := @hx_block_normal
def zq := @hc_ret
def zy := @results_1
theorem zz {P : Program} {D : Nat → Prop} {w0 : World} {n : Nat} {env : Slots} {l : List HProp} {fn : Func} {R : Ending → World → Prop} {t : Nat} (hr : fn.results = #[.tmp t]) {v : Value} (hv : Slots.get env t = some v) (h : ∀ w, Own D w0 w l → R (.returned v) w) : HX (bodyPost P fn R) .ret D w0 n env l := results_1 (.inr rfl) hr hv h
theorem zp (A : HProp) {P : Program} {f : Nat} {args : Array Value} {D : Nat → Prop} {w0 w : World} {l r post : List HProp} {v : Value} [hp : Pick l A r] (hc : ∀ D', (∀ A, Old D w0 A → Old D' w A) → (∀ B : HProp, (∀ h, stars r h → (∀ A, Old D w0 A → ∃ h1, A h1 ∧ Hsub h1 h) → B h) → Old D' w B) → Own D' w w [A] → Calls P f args w fun e w' => e = .returned v ∧ Own D' w w' post) (H : Own D w0 w l) : Calls P f args w fun e w' => e = .returned v ∧ Own D w0 w' (post ++ r) := Own.callp A H hc
theorem zpx (A : HProp) {P : Program} {f : Nat} {args : Array Value} {D : Nat → Prop} {w0 w : World} {l r : List HProp} {σ : Type} {post : σ → List HProp} {v : σ → Value} [hp : Pick l A r] (hc : ∀ D', (∀ A, Old D w0 A → Old D' w A) → (∀ B : HProp, (∀ h, stars r h → (∀ A, Old D w0 A → ∃ h1, A h1 ∧ Hsub h1 h) → B h) → Old D' w B) → Own D' w w [A] → Calls P f args w fun e w' => ∃ s, e = .returned (v s) ∧ Own D' w w' (post s)) (H : Own D w0 w l) : Calls P f args w fun e w' => ∃ s, e = .returned (v s) ∧ Own D w0 w' (post s ++ r) := Own.callpx A H hc
theorem zu {P : Program} {f : Nat} {args : Array Value} {D : Nat → Prop} {w0 w : World} {l : List HProp} {σ : Type} {post : σ → List HProp} {v : σ → Value} (hc : ∀ D', (∀ A, Old D w0 A → Old D' w A) → (∀ B : HProp, (∀ h, stars l h → (∀ A, Old D w0 A → ∃ h1, A h1 ∧ Hsub h1 h) → B h) → Old D' w B) → Own D' w w [] → Calls P f args w fun e w' => ∃ s, e = .returned (v s) ∧ Own D' w w' (post s)) (H : Own D w0 w l) : Calls P f args w fun e w' => ∃ s, e = .returned (v s) ∧ Own D w0 w' (post s ++ l) := Own.callx0 H hc
theorem zun {P : Program} {f : Nat} {args : Array Value} {D : Nat → Prop} {w0 w : World} {l : List HProp} {v : Value} (hc : ∀ D', (∀ A, Old D w0 A → Old D' w A) → (∀ B : HProp, (∀ h, stars l h → (∀ A, Old D w0 A → ∃ h1, A h1 ∧ Hsub h1 h) → B h) → Old D' w B) → Own D' w w [] → Calls P f args w fun e w' => e = .returned v ∧ Own D' w w' []) (H : Own D w0 w l) : Calls P f args w fun e w' => e = .returned v ∧ Own D w0 w' l := Own.calln H hc
end Slk
