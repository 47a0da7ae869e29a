import Derived.RangeFuncLeaves
import Derived.RangeFuncRecord
import Derived.Lib.Overlaps
import Derived.Test.YtjlolpmmpafjeaaGreatChecked
import Derived.Test.YtjlolpmmpafjeaaGreatU01
set_option linter.unusedVariables false
namespace Go.Proofs.YtjlolpmmpafjeaaGreat
open CN


instance : RT Tryz.prog 3 (.int .i64) := ⟨AB⟩
instance : ML Tryz.prog 3 .i64 := ⟨AB⟩
instance : HU Tryz.prog 3 := ⟨AB⟩
instance : CX Tryz.prog 3 1 8 ([.int .i64 0]) := ⟨AB, AB⟩

instance : gQ Tryz.prog 4 := ⟨AB⟩
instance : HU Tryz.prog 4 := ⟨AB⟩
instance : CX Tryz.prog 4 1 1 ([.bool false]) := ⟨AB, AB⟩

instance : RT Tryz.prog 5 (.int .u8) := ⟨AB⟩
instance : ML Tryz.prog 5 .u8 := ⟨AB⟩
instance : HU Tryz.prog 5 := ⟨AB⟩
instance : CX Tryz.prog 5 1 1 ([.int .u8 0]) := ⟨AB, AB⟩

instance : gY Tryz.prog 9 := ⟨AB⟩


instance : E6 Tryz.prog 22 23 := ⟨AB⟩
instance : HU Tryz.prog 22 := ⟨AB⟩
instance : CX Tryz.prog 22 1 24 ([.slice none 0 0]) := ⟨AB, AB⟩

instance : E6 Tryz.prog 23 81 := ⟨AB⟩
instance : HU Tryz.prog 23 := ⟨AB⟩
instance : CX Tryz.prog 23 1 24 ([.slice none 0 0]) := ⟨AB, AB⟩

instance : E6 Tryz.prog 24 4 := ⟨AB⟩
instance : HU Tryz.prog 24 := ⟨AB⟩
instance : CX Tryz.prog 24 1 24 ([.slice none 0 0]) := ⟨AB, AB⟩


instance : IA Tryz.prog 26 := ⟨AB⟩
instance : CX Tryz.prog 26 4 80 ([.slice none 0 0, .slice none 0 0, .int .i64 0, .slice none 0 0]) := ⟨AB, AB⟩
instance : C2 Tryz.prog 26 0 0 22 1 := ⟨AB⟩
instance : C2 Tryz.prog 26 1 1 23 1 := ⟨AB⟩
instance : C2 Tryz.prog 26 2 2 3 1 := ⟨AB⟩
instance : C2 Tryz.prog 26 3 3 24 1 := ⟨AB⟩
instance : G6 Tryz.prog 26 [(0, 1), (1, 1), (2, 1), (3, 1)] := ⟨AB⟩

instance : NJ Tryz.prog 29 107 := ⟨AB⟩
instance : HU Tryz.prog 29 := ⟨AB⟩


instance : NJ Tryz.prog 33 56 := ⟨AB⟩
instance : HU Tryz.prog 33 := ⟨AB⟩

instance : NJ Tryz.prog 36 120 := ⟨AB⟩

instance : NJ Tryz.prog 39 52 := ⟨AB⟩

instance : HU Tryz.prog 44 := ⟨AB⟩

instance : E6 Tryz.prog 45 83 := ⟨AB⟩
instance : HU Tryz.prog 45 := ⟨AB⟩
instance : CX Tryz.prog 45 1 24 ([.slice none 0 0]) := ⟨AB, AB⟩

instance : E6 Tryz.prog 46 147 := ⟨AB⟩
instance : HU Tryz.prog 46 := ⟨AB⟩
instance : CX Tryz.prog 46 1 24 ([.slice none 0 0]) := ⟨AB, AB⟩

instance : E6 Tryz.prog 47 149 := ⟨AB⟩
instance : HU Tryz.prog 47 := ⟨AB⟩
instance : CX Tryz.prog 47 1 24 ([.slice none 0 0]) := ⟨AB, AB⟩


instance : IA Tryz.prog 49 := ⟨AB⟩
instance : CX Tryz.prog 49 6 96 ([.int .i64 0, .int .i64 0, .int .i64 0, .slice none 0 0, .slice none 0 0, .slice none 0 0]) := ⟨AB, AB⟩
instance : C2 Tryz.prog 49 0 0 3 1 := ⟨AB⟩
instance : C2 Tryz.prog 49 1 1 3 1 := ⟨AB⟩
instance : C2 Tryz.prog 49 2 2 3 1 := ⟨AB⟩
instance : C2 Tryz.prog 49 3 3 45 1 := ⟨AB⟩
instance : C2 Tryz.prog 49 4 4 46 1 := ⟨AB⟩
instance : C2 Tryz.prog 49 5 5 47 1 := ⟨AB⟩
instance : G6 Tryz.prog 49 [(0, 1), (1, 1), (2, 1), (3, 1), (4, 1), (5, 1)] := ⟨AB⟩

instance : RT Tryz.prog 50 (.int .u32) := ⟨AB⟩
instance : ML Tryz.prog 50 .u32 := ⟨AB⟩
instance : HU Tryz.prog 50 := ⟨AB⟩
instance : CX Tryz.prog 50 1 4 ([.int .u32 0]) := ⟨AB, AB⟩


instance : CX Tryz.prog 52 9 120 ([.pointer none, .pointer none, .int .i64 0, .int .i64 0, .int .i64 0, .slice none 0 0, .slice none 0 0, .slice none 0 0, .int .u32 0]) := ⟨AB, AB⟩
instance : C2 Tryz.prog 52 0 0 33 1 := ⟨AB⟩
instance : C2 Tryz.prog 52 1 1 44 1 := ⟨AB⟩
instance : C2 Tryz.prog 52 2 2 49 6 := ⟨AB⟩
instance : C2 Tryz.prog 52 3 8 50 1 := ⟨AB⟩
instance : G6 Tryz.prog 52 [(0, 1), (1, 1), (2, 6), (8, 1)] := ⟨AB⟩

instance : E6 Tryz.prog 53 61 := ⟨AB⟩
instance : HU Tryz.prog 53 := ⟨AB⟩
instance : CX Tryz.prog 53 1 24 ([.slice none 0 0]) := ⟨AB, AB⟩

instance : E6 Tryz.prog 54 63 := ⟨AB⟩
instance : HU Tryz.prog 54 := ⟨AB⟩
instance : CX Tryz.prog 54 1 24 ([.slice none 0 0]) := ⟨AB, AB⟩


instance : CX Tryz.prog 56 2 48 ([.slice none 0 0, .slice none 0 0]) := ⟨AB, AB⟩
instance : C2 Tryz.prog 56 0 0 53 1 := ⟨AB⟩
instance : C2 Tryz.prog 56 1 1 54 1 := ⟨AB⟩
instance : G6 Tryz.prog 56 [(0, 1), (1, 1)] := ⟨AB⟩

instance : E6 Tryz.prog 57 54 := ⟨AB⟩

instance : QB Tryz.prog 61 64 5 := ⟨AB⟩
instance : IA Tryz.prog 61 := ⟨AB⟩
instance : CX Tryz.prog 61 64 64 (List.replicate 64 (.int .u8 0)) := ⟨AB, AB⟩
instance : PY Tryz.prog 61 (List.replicate 64 (.i .u8)) := ⟨by kernel_rfl, by kernel_rfl, by kernel_rfl, by kernel_rfl⟩


instance : IA Tryz.prog 63 := ⟨AB⟩
instance : CX Tryz.prog 63 65 72 ([.int .i64 0] ++ List.replicate 64 (.int .u8 0)) := ⟨AB, AB⟩
instance : C2 Tryz.prog 63 0 0 3 1 := ⟨AB⟩
instance : C2 Tryz.prog 63 1 1 61 64 := ⟨AB⟩
instance : G6 Tryz.prog 63 [(0, 1), (1, 64)] := ⟨AB⟩




instance : RT Tryz.prog 79 (.int .u64) := ⟨AB⟩
instance : ML Tryz.prog 79 .u64 := ⟨AB⟩
instance : HU Tryz.prog 79 := ⟨AB⟩
instance : CX Tryz.prog 79 1 8 ([.int .u64 0]) := ⟨AB, AB⟩


instance : IA Tryz.prog 81 := ⟨AB⟩
instance : CX Tryz.prog 81 7 48 ([.int .i64 0, .int .i64 0, .int .i64 0, .int .i64 0, .int .u8 0, .int .u8 0, .int .u64 0]) := ⟨AB, AB⟩
instance : C2 Tryz.prog 81 0 0 3 1 := ⟨AB⟩
instance : C2 Tryz.prog 81 1 1 3 1 := ⟨AB⟩
instance : C2 Tryz.prog 81 2 2 3 1 := ⟨AB⟩
instance : C2 Tryz.prog 81 3 3 3 1 := ⟨AB⟩
instance : C2 Tryz.prog 81 4 4 5 1 := ⟨AB⟩
instance : C2 Tryz.prog 81 5 5 5 1 := ⟨AB⟩
instance : C2 Tryz.prog 81 6 6 79 1 := ⟨AB⟩
instance : G6 Tryz.prog 81 [(0, 1), (1, 1), (2, 1), (3, 1), (4, 1), (5, 1), (6, 1)] := ⟨AB⟩


instance : IA Tryz.prog 83 := ⟨AB⟩
instance : CX Tryz.prog 83 3 16 ([.bool false, .int .u32 0, .int .i64 0]) := ⟨AB, AB⟩
instance : PY Tryz.prog 83 ([.b, .i .u32, .i .i64]) := ⟨by kernel_rfl, by kernel_rfl, by kernel_rfl, by kernel_rfl⟩
instance : C2 Tryz.prog 83 0 0 4 1 := ⟨AB⟩
instance : C2 Tryz.prog 83 1 1 50 1 := ⟨AB⟩
instance : C2 Tryz.prog 83 2 2 3 1 := ⟨AB⟩
instance : G6 Tryz.prog 83 [(0, 1), (1, 1), (2, 1)] := ⟨AB⟩






instance : E6 Tryz.prog 105 143 := ⟨AB⟩
instance : HU Tryz.prog 105 := ⟨AB⟩
instance : CX Tryz.prog 105 1 24 ([.slice none 0 0]) := ⟨AB, AB⟩


instance : CX Tryz.prog 107 2 48 ([.slice none 0 0, .slice none 0 0]) := ⟨AB, AB⟩
instance : C2 Tryz.prog 107 0 0 53 1 := ⟨AB⟩
instance : C2 Tryz.prog 107 1 1 105 1 := ⟨AB⟩
instance : G6 Tryz.prog 107 [(0, 1), (1, 1)] := ⟨AB⟩

instance : E6 Tryz.prog 108 5 := ⟨AB⟩
instance : HU Tryz.prog 108 := ⟨AB⟩
instance : CX Tryz.prog 108 1 24 ([.slice none 0 0]) := ⟨AB, AB⟩

instance : NJ Tryz.prog 113 169 := ⟨AB⟩
instance : HU Tryz.prog 113 := ⟨AB⟩

instance : E6 Tryz.prog 117 108 := ⟨AB⟩
instance : HU Tryz.prog 117 := ⟨AB⟩
instance : CX Tryz.prog 117 1 24 ([.slice none 0 0]) := ⟨AB, AB⟩


instance : CX Tryz.prog 120 9 120 ([.pointer none, .pointer none, .int .i64 0, .int .i64 0, .int .i64 0, .slice none 0 0, .slice none 0 0, .slice none 0 0, .int .u32 0]) := ⟨AB, AB⟩
instance : C2 Tryz.prog 120 0 0 113 1 := ⟨AB⟩
instance : C2 Tryz.prog 120 1 1 29 1 := ⟨AB⟩
instance : C2 Tryz.prog 120 2 2 49 6 := ⟨AB⟩
instance : C2 Tryz.prog 120 3 8 50 1 := ⟨AB⟩
instance : G6 Tryz.prog 120 [(0, 1), (1, 1), (2, 6), (8, 1)] := ⟨AB⟩


instance : IA Tryz.prog 122 := ⟨AB⟩
instance : CX Tryz.prog 122 4 48 ([.int .u32 0, .slice none 0 0, .int .i64 0, .int .i64 0]) := ⟨AB, AB⟩
instance : C2 Tryz.prog 122 0 0 50 1 := ⟨AB⟩
instance : C2 Tryz.prog 122 1 1 108 1 := ⟨AB⟩
instance : C2 Tryz.prog 122 2 2 3 1 := ⟨AB⟩
instance : C2 Tryz.prog 122 3 3 3 1 := ⟨AB⟩
instance : G6 Tryz.prog 122 [(0, 1), (1, 1), (2, 1), (3, 1)] := ⟨AB⟩


instance : CX Tryz.prog 131 6 64 ([.pointer none, .int .i64 0, .int .i64 0, .int .u32 0, .slice none 0 0, .int .i64 0]) := ⟨AB, AB⟩
instance : C2 Tryz.prog 131 0 0 33 1 := ⟨AB⟩
instance : C2 Tryz.prog 131 1 1 3 1 := ⟨AB⟩
instance : C2 Tryz.prog 131 2 2 3 1 := ⟨AB⟩
instance : C2 Tryz.prog 131 3 3 50 1 := ⟨AB⟩
instance : C2 Tryz.prog 131 4 4 117 1 := ⟨AB⟩
instance : C2 Tryz.prog 131 5 5 3 1 := ⟨AB⟩
instance : G6 Tryz.prog 131 [(0, 1), (1, 1), (2, 1), (3, 1), (4, 1), (5, 1)] := ⟨AB⟩

instance : QB Tryz.prog 140 4 54 := ⟨AB⟩
instance : CX Tryz.prog 140 4 96 ([.slice none 0 0, .slice none 0 0, .slice none 0 0, .slice none 0 0]) := ⟨AB, AB⟩


instance : IA Tryz.prog 143 := ⟨AB⟩
instance : CX Tryz.prog 143 65 72 ([.int .i64 0] ++ List.replicate 64 (.int .u8 0)) := ⟨AB, AB⟩
instance : C2 Tryz.prog 143 0 0 3 1 := ⟨AB⟩
instance : C2 Tryz.prog 143 1 1 61 64 := ⟨AB⟩
instance : G6 Tryz.prog 143 [(0, 1), (1, 64)] := ⟨AB⟩


instance : IA Tryz.prog 147 := ⟨AB⟩
instance : CX Tryz.prog 147 3 16 ([.int .i64 0, .int .u8 0, .int .u8 0]) := ⟨AB, AB⟩
instance : PY Tryz.prog 147 ([.i .i64, .i .u8, .i .u8]) := ⟨by kernel_rfl, by kernel_rfl, by kernel_rfl, by kernel_rfl⟩
instance : C2 Tryz.prog 147 0 0 3 1 := ⟨AB⟩
instance : C2 Tryz.prog 147 1 1 5 1 := ⟨AB⟩
instance : C2 Tryz.prog 147 2 2 5 1 := ⟨AB⟩
instance : G6 Tryz.prog 147 [(0, 1), (1, 1), (2, 1)] := ⟨AB⟩


instance : IA Tryz.prog 149 := ⟨AB⟩
instance : CX Tryz.prog 149 3 24 ([.int .u64 0, .int .i64 0, .int .i64 0]) := ⟨AB, AB⟩
instance : PY Tryz.prog 149 ([.i .u64, .i .i64, .i .i64]) := ⟨by kernel_rfl, by kernel_rfl, by kernel_rfl, by kernel_rfl⟩
instance : C2 Tryz.prog 149 0 0 79 1 := ⟨AB⟩
instance : C2 Tryz.prog 149 1 1 3 1 := ⟨AB⟩
instance : C2 Tryz.prog 149 2 2 3 1 := ⟨AB⟩
instance : G6 Tryz.prog 149 [(0, 1), (1, 1), (2, 1)] := ⟨AB⟩

instance : RT Tryz.prog 150 (.int .u64) := ⟨AB⟩
instance : ML Tryz.prog 150 .u64 := ⟨AB⟩






instance : CX Tryz.prog 163 2 32 ([.slice none 0 0, .bool false]) := ⟨AB, AB⟩
instance : C2 Tryz.prog 163 0 0 108 1 := ⟨AB⟩
instance : C2 Tryz.prog 163 1 1 4 1 := ⟨AB⟩
instance : G6 Tryz.prog 163 [(0, 1), (1, 1)] := ⟨AB⟩


instance : CX Tryz.prog 165 2 32 ([.slice none 0 0, .bool false]) := ⟨AB, AB⟩
instance : C2 Tryz.prog 165 0 0 163 2 := ⟨AB⟩
instance : G6 Tryz.prog 165 [(0, 2)] := ⟨AB⟩


instance : IA Tryz.prog 167 := ⟨AB⟩
instance : CX Tryz.prog 167 3 24 ([.pointer none, .int .i64 0, .int .i64 0]) := ⟨AB, AB⟩
instance : C2 Tryz.prog 167 0 0 29 1 := ⟨AB⟩
instance : C2 Tryz.prog 167 1 1 3 1 := ⟨AB⟩
instance : C2 Tryz.prog 167 2 2 3 1 := ⟨AB⟩
instance : G6 Tryz.prog 167 [(0, 1), (1, 1), (2, 1)] := ⟨AB⟩


instance : CX Tryz.prog 169 6 64 ([.pointer none, .int .i64 0, .int .i64 0, .int .u32 0, .int .i64 0, .slice none 0 0]) := ⟨AB, AB⟩
instance : C2 Tryz.prog 169 0 0 167 3 := ⟨AB⟩
instance : C2 Tryz.prog 169 1 3 50 1 := ⟨AB⟩
instance : C2 Tryz.prog 169 2 4 3 1 := ⟨AB⟩
instance : C2 Tryz.prog 169 3 5 117 1 := ⟨AB⟩
instance : G6 Tryz.prog 169 [(0, 3), (3, 1), (4, 1), (5, 1)] := ⟨AB⟩


instance : IA Tryz.prog 172 := ⟨AB⟩
instance : CX Tryz.prog 172 4 40 ([.int .i64 0, .int .u32 0, .int .u32 0, .slice none 0 0]) := ⟨AB, AB⟩
instance : C2 Tryz.prog 172 0 0 3 1 := ⟨AB⟩
instance : C2 Tryz.prog 172 1 1 50 1 := ⟨AB⟩
instance : C2 Tryz.prog 172 2 2 50 1 := ⟨AB⟩
instance : C2 Tryz.prog 172 3 3 108 1 := ⟨AB⟩
instance : G6 Tryz.prog 172 [(0, 1), (1, 1), (2, 1), (3, 1)] := ⟨AB⟩


instance : IA Tryz.prog 183 := ⟨AB⟩
instance : CX Tryz.prog 183 3 40 ([.slice none 0 0, .int .i64 0, .int .i64 0]) := ⟨AB, AB⟩
instance : C2 Tryz.prog 183 0 0 53 1 := ⟨AB⟩
instance : C2 Tryz.prog 183 1 1 3 1 := ⟨AB⟩
instance : C2 Tryz.prog 183 2 2 3 1 := ⟨AB⟩
instance : G6 Tryz.prog 183 [(0, 1), (1, 1), (2, 1)] := ⟨AB⟩



instance : CX Tryz.prog 188 2 32 ([.slice none 0 0, .bool false]) := ⟨AB, AB⟩
instance : C2 Tryz.prog 188 0 0 108 1 := ⟨AB⟩
instance : C2 Tryz.prog 188 1 1 4 1 := ⟨AB⟩
instance : G6 Tryz.prog 188 [(0, 1), (1, 1)] := ⟨AB⟩

instance : IA Tryz.prog 192 := ⟨AB⟩
instance : CX Tryz.prog 192 4 40 ([.int .i64 0, .int .u32 0, .int .u32 0, .slice none 0 0]) := ⟨AB, AB⟩
instance : C2 Tryz.prog 192 0 0 3 1 := ⟨AB⟩
instance : C2 Tryz.prog 192 1 1 50 1 := ⟨AB⟩
instance : C2 Tryz.prog 192 2 2 50 1 := ⟨AB⟩
instance : C2 Tryz.prog 192 3 3 108 1 := ⟨AB⟩
instance : G6 Tryz.prog 192 [(0, 1), (1, 1), (2, 1), (3, 1)] := ⟨AB⟩


instance : IA Tryz.prog 194 := ⟨AB⟩
instance : CX Tryz.prog 194 6 56 ([.int .i64 0, .int .u32 0, .int .u32 0, .slice none 0 0, .int .i64 0, .int .i64 0]) := ⟨AB, AB⟩
instance : C2 Tryz.prog 194 0 0 192 4 := ⟨AB⟩
instance : C2 Tryz.prog 194 1 4 3 1 := ⟨AB⟩
instance : C2 Tryz.prog 194 2 5 3 1 := ⟨AB⟩
instance : G6 Tryz.prog 194 [(0, 4), (4, 1), (5, 1)] := ⟨AB⟩



instance : C2 Tryz.prog 201 0 0 108 1 := ⟨AB⟩


instance : CX Tryz.prog 203 1 24 ([.slice none 0 0]) := ⟨AB, AB⟩
instance : C2 Tryz.prog 203 0 0 201 1 := ⟨AB⟩
instance : G6 Tryz.prog 203 [(0, 1)] := ⟨AB⟩

instance : NJ Tryz.prog 220 223 := ⟨AB⟩


instance : CX Tryz.prog 223 5 48 ([.int .i64 0, .int .u32 0, .int .u32 0, .slice none 0 0, .int .i64 0]) := ⟨AB, AB⟩
instance : C2 Tryz.prog 223 0 0 172 4 := ⟨AB⟩
instance : C2 Tryz.prog 223 1 4 3 1 := ⟨AB⟩
instance : G6 Tryz.prog 223 [(0, 4), (4, 1)] := ⟨AB⟩


instance : CX Tryz.prog 244 3 16 ([.int .i64 0, .int .u32 0, .int .u32 0]) := ⟨AB, AB⟩
instance : C2 Tryz.prog 244 0 0 3 1 := ⟨AB⟩
instance : C2 Tryz.prog 244 1 1 50 1 := ⟨AB⟩
instance : C2 Tryz.prog 244 2 2 50 1 := ⟨AB⟩
instance : G6 Tryz.prog 244 [(0, 1), (1, 1), (2, 1)] := ⟨AB⟩


instance : CX Tryz.prog 246 4 40 ([.int .i64 0, .int .u32 0, .int .u32 0, .slice none 0 0]) := ⟨AB, AB⟩
instance : C2 Tryz.prog 246 0 0 244 3 := ⟨AB⟩
instance : C2 Tryz.prog 246 1 3 108 1 := ⟨AB⟩
instance : G6 Tryz.prog 246 [(0, 3), (3, 1)] := ⟨AB⟩




instance : E6 Tryz.prog 268 3 := ⟨AB⟩


instance : CX Tryz.prog 278 2 8 ([.int .u32 0, .int .u32 0]) := ⟨AB, AB⟩
instance : C2 Tryz.prog 278 0 0 50 1 := ⟨AB⟩
instance : C2 Tryz.prog 278 1 1 50 1 := ⟨AB⟩
instance : G6 Tryz.prog 278 [(0, 1), (1, 1)] := ⟨AB⟩




end Go.Proofs.YtjlolpmmpafjeaaGreat

set_option linter.unusedVariables false
set_option linter.unusedSimpArgs false
namespace CN
open Go

theorem AD.KM {a b : List AQ} : AD (a ++ b) a := fun x hx => by
 obtain ⟨h1, h2, p, b, c, d, e⟩ := NR.1 hx
 exact TI d p
section
variable {P : Program} {Q : Post} {D : Nat → Prop} {w0 : World} {n : Nat} {env : BH} {l r : List AQ} {ops : Array Oper}
end
section
variable {α : Type} [AX α] {l r : List AQ} {xs ys : List α} {cs ds : List Value} {A : Option Addr} {t : TypeId} {n cap : Nat}
end
theorem AD.pure_cons {p : Prop} {l l' : List AQ} (h : p) (k : AD l l') : AD l (JU p :: l') := fun x hx => R4.2 ⟨h, k _ hx⟩
theorem BB.HJ {D : Nat → Prop} {w0 : World} {l r : List AQ} {A : Option Addr} {t : TypeId} {sz n cap : Nat} {cs : List Value} [h : GC l A t sz n cap cs r] (hA : CN.CU A) (lo m : Nat) (hm : lo + m ≤ n) (hl : cs.length = n * sz) (hc : n ≤ cap) {news : List Value} (hnew : news = (cs.drop (lo * sz)).take (m * sz)) :
  BB D w0 l (if cap = lo then A else A.map (·.add (lo * sz))) news := by
 subst hnew
 refine BB.XW h.out (fun x hx => fU (SS _ hx) cap lo m sz ?_ AA) (fun _ => ?_)
 ·rw [hl]; exact Nat.mul_le_mul_right _ hm
 ·split
  ·exact hA
  ·rw [hA]; simp [L5, CN.CU]
end CN

set_option linter.unusedVariables false
set_option linter.unusedSimpArgs false
namespace CN
open Go
section
variable {P : Program} {D : Nat → Prop} {w0 : World} {env : BH} {l : List AQ} {dst : Option Tmp} {ty : TypeId} {pos : String} {after : Array Edge} {g : Option (Nat × Bool)} {x y : Operand} {t t' : TypeId}
end
section
variable {P : Program} {D : Nat → Prop} {w0 : World} {env : BH} {l : List AQ} {dst : Option Tmp} {ty : TypeId} {pos : String} {after : Array Edge} {g : Option (Nat × Bool)} {x y : Operand} {t t' : TypeId}
theorem qO {k : IntKind} {a b : Nat} (hx : BQ env x = some (.int k (a : Int))) (hy : BQ env y = some (.int k (b : Int))) (hb : 0 < b) : DI P D w0 env l ⟨dst, .binOp .rem t x y t', ty, pos, after, g⟩ (.int k ((a % b : Nat) : Int)) :=
 RE hx hy AA (by rw [Int.tmod_eq_emod_of_nonneg AA]; rfl)
theorem XG {k : IntKind} {a b m : Nat} (hx : BQ env x = some (.int k (a : Int))) (hy : BQ env y = some (.int k (b : Int))) (hb : 0 < b) (hm : m = a % b) : DI P D w0 env l ⟨dst, .binOp .rem t x y t', ty, pos, after, g⟩ (.int k (m : Int)) := by subst hm; exact qO hx hy hb
end
section
variable {P : Program} {Q : Post} {D : Nat → Prop} {w0 : World} {n : Nat} {env : BH} {l : List AQ} {ops : Array Oper}
end
end CN

set_option linter.unusedVariables false
set_option linter.unusedSimpArgs false
namespace CN
open Go
section
variable {P : Program} {Q : Post} {D : Nat → Prop} {w0 : World} {n : Nat} {env : BH} {l : List AQ} {ops : Array Oper} {r : List Oper}
theorem W5 {d f : Nat} {fx : Operand} {fs cs : List Value} {args : List Operand} {ats : Array TypeId} {ty : TypeId} {pos : String} {after : Array Edge} {vs : List Value} {σ : Type} {v : σ → Value} {l' : σ → List AQ} (hf : BQ env fx = some (.func (.func f) fs.toArray cs.toArray)) (hcf : ∀ args w, (callFunc f args).run P w = .ok (.enter f args) w)
  (hv : KG env args = some vs) (hn : Nat.blt d n = true) (hc : ∀ w, AH D w0 w l → Calls P f (fs ++ vs ++ cs).toArray w fun e w' => ∃ s, e = .returned (v s) ∧ AH D w0 w' (l' s))
  (k : ∀ s, HL P ops Q D w0 n ((d, v s) :: env) (l' s) r) : HL P ops Q D w0 n env l (⟨some d, .call ⟨.value fx, args.toArray, ats⟩, ty, pos, after, none⟩ :: r) := .mk fun a w S => by
 refine wpList_plain rfl fun K hK => ?_
 unfold Oper.wp
 have hrun : (execOp a.eval ⟨some d, .call ⟨.value fx, args.toArray, ats⟩, ty, pos, after, none⟩).run P w = .ok (.enter f (fs ++ vs ++ cs).toArray) w := by
  simp [execOp, resolve, Deferred.ofValue, S.env.eval hf, invoke, S.env.O5 hv, hcf]
 rw [hrun, Oper.upon_enter]
 refine (hc w S.own).mono fun e w' ⟨s, he, H⟩ => ?_
 subst he
 exact hK _ _ ((k s).run _ w' ⟨S.env.put hn _, H⟩)
theorem SV {d f : Nat} {fx : Operand} {fs cs : List Value} {args : List Operand} {ats : Array TypeId} {ty : TypeId} {pos : String} {after : Array Edge} {vs : List Value} {v : Value} {l' : List AQ} (hf : BQ env fx = some (.func (.func f) fs.toArray cs.toArray)) (hcf : ∀ args w, (callFunc f args).run P w = .ok (.enter f args) w)
  (hv : KG env args = some vs) (hn : Nat.blt d n = true) (hc : ∀ w, AH D w0 w l → Calls P f (fs ++ vs ++ cs).toArray w fun e w' => e = .returned v ∧ AH D w0 w' l')
  (k : HL P ops Q D w0 n ((d, v) :: env) l' r) : HL P ops Q D w0 n env l (⟨some d, .call ⟨.value fx, args.toArray, ats⟩, ty, pos, after, none⟩ :: r) :=
 W5 (σ := Unit) (v := fun _ => v) (l' := fun _ => l') hf hcf hv hn (fun w H => (hc w H).mono fun e w' h => ⟨(), h⟩) fun _ => k
theorem W3 {fn : Func} {ty : TypeId} {s bb b : Nat} {z cs : List Value} {et : TypeId} {rr : List AQ} [h : IA P ty] [hs : CX P ty s bb z] [hp : FR l b et cs rr] (hl : cs.length = s) {w : World} (H : AH D w0 w l) : (loadVar ty ⟨b, 0, none⟩).run P w = .ok (.agg cs.toArray) w :=
 X7 hl fun i v hi => by
  rw [Nat.zero_add]
  exact (EH.AI (D := D) (w0 := w0) (l := l) (b := b) (off := i) hi) w H
theorem IU {fn : Func} {R : Ending → World → Prop} {e : Exit} (he : e = .normal ∨ e = .ret) {t : Nat} {ty : TypeId} {s bb b : Nat} {z cs : List Value} {et : TypeId} {rr : List AQ} [h : IA P ty] [hs : CX P ty s bb z] (hr : fn.results = #[.cell t ty]) (hv : BH.get env t = some (.pointer (some ⟨b, 0, none⟩))) [hp : FR l b et cs rr] (hl : cs.length = s)
  (k : ∀ w, AH D w0 w l → R (.returned (.agg cs.toArray)) w) : HX (bodyPost P fn R) e D w0 n env l := .mk fun a w S => by
 have h1 := W3 (fn := fn) (P := P) (ty := ty) (b := b) hl S.own
 have k1 : (results fn a.tmps).run P w = .ok (.agg cs.toArray) w := by simp [results, hr, S.env.get _ _ hv, asAddr, h1]
 rcases he with rfl | rfl <;> exact ⟨S.env.defers, _, k1, k w S.own⟩
theorem ID {fn : Func} {R : Ending → World → Prop} {e : Exit} (he : e = .normal ∨ e = .ret) {t u : Nat} {ty : TypeId} {s bb b : Nat} {z cs : List Value} {et : TypeId} {rr : List AQ} {y : Value} [h : IA P ty] [hs : CX P ty s bb z] (hr : fn.results = #[.cell t ty, .tmp u]) (hv : BH.get env t = some (.pointer (some ⟨b, 0, none⟩))) [hp : FR l b et cs rr] (hl : cs.length = s) (hy : BH.get env u = some y)
  (k : ∀ w, AH D w0 w l → R (.returned (.tuple #[.agg cs.toArray, y])) w) : HX (bodyPost P fn R) e D w0 n env l := .mk fun a w S => by
 have h1 := W3 (fn := fn) (P := P) (ty := ty) (b := b) hl S.own
 have k1 : (results fn a.tmps).run P w = .ok (.tuple #[.agg cs.toArray, y]) w := by simp [results, hr, S.env.get _ _ hv, S.env.get _ _ hy, asAddr, h1]
 rcases he with rfl | rfl <;> exact ⟨S.env.defers, _, k1, k w S.own⟩
theorem QM {fn : Func} {R : Ending → World → Prop} {e : Exit} (he : e = .normal ∨ e = .ret) {t u u2 : Nat} {ty : TypeId} {s bb b : Nat} {z cs : List Value} {et : TypeId} {rr : List AQ} {y y2 : Value} [h : IA P ty] [hs : CX P ty s bb z] (hr : fn.results = #[.cell t ty, .tmp u, .tmp u2]) (hv : BH.get env t = some (.pointer (some ⟨b, 0, none⟩))) [hp : FR l b et cs rr] (hl : cs.length = s) (hy : BH.get env u = some y) (hy2 : BH.get env u2 = some y2)
  (k : ∀ w, AH D w0 w l → R (.returned (.tuple #[.agg cs.toArray, y, y2])) w) : HX (bodyPost P fn R) e D w0 n env l := .mk fun a w S => by
 have h1 := W3 (fn := fn) (P := P) (ty := ty) (b := b) hl S.own
 have k1 : (results fn a.tmps).run P w = .ok (.tuple #[.agg cs.toArray, y, y2]) w := by simp [results, hr, S.env.get _ _ hv, S.env.get _ _ hy, S.env.get _ _ hy2, asAddr, h1]
 rcases he with rfl | rfl <;> exact ⟨S.env.defers, _, k1, k w S.own⟩
end
section
variable {P : Program} {D : Nat → Prop} {w0 : World} {env : BH} {l : List AQ} {dst : Option Tmp} {ty : TypeId} {pos : String} {after : Array Edge} {g : Option (Nat × Bool)}
theorem PT {e : TypeId} {x : Operand} {cs : List Value} (hx : BQ env x = some (.agg cs.toArray)) : FA P D w0 env l ⟨dst, .box e x, ty, pos, after, g⟩ (fun b : Nat => .pointer (some ⟨b, 0, none⟩)) (fun b => AI b e cs :: l) := gI hx
theorem FV {t et : TypeId} {s bb : Nat} {z : List Value} [h : IA P t] [hs : CX P t s bb z] {x : Operand} {b : Nat} {cs : List Value} {r : List AQ} (hx : BQ env x = some (.pointer (some ⟨b, 0, none⟩))) [hp : FR l b et cs r] (hl : cs.length = s) : DI P D w0 env l ⟨dst, .load t x, ty, pos, after, g⟩ (.agg cs.toArray) :=
 D4 hx hl (DZ.AI (fun i v hv => by rw [Nat.zero_add]; exact hv))
theorem WB {cs vs : List Value} (h : vs.length = cs.length) : FH cs 0 vs = vs := by
 have := L2 [] cs [] vs 0 rfl h
 simpa using this
theorem CV {t et : TypeId} {s bb : Nat} {z : List Value} [h : CX P t s bb z] {x y : Operand} {b : Nat} {cs vs : List Value} {r : List AQ} (hx : BQ env x = some (.pointer (some ⟨b, 0, none⟩))) (hy : BQ env y = some (.agg vs.toArray)) [hp : FR l b et cs r] (hl : vs.length = s) (hc : cs.length = s) (h1 : ∀ v ∈ vs, v.oneCell' = true) :
  FA P D w0 env l ⟨dst, .store t x y, ty, pos, after, g⟩ (fun _ : Unit => undef) (fun _ => AI b et vs :: r) := by
 have := WI (P := P) (D := D) (w0 := w0) (dst := dst) (ty := ty) (pos := pos) (after := after) (g := g) (t := t) hx hy (hp := hp) hl AA h1
 rw [WB AA] at this
 exact this
theorem CI {t et : TypeId} {bb : Nat} {z : List Value} [h : CX P t 1 bb z] {x y : Operand} {b off : Nat} {cs : List Value} {r : List AQ} {v : Value} (cs' : List Value) (hx : BQ env x = some (.pointer (some ⟨b, off, none⟩))) (hy : BQ env y = some v) [hp : FR l b et cs r] (ho : off < cs.length) (h1 : v.oneCell' = true) (hn : cs.set off v = cs') :
  FA P D w0 env l ⟨dst, .store t x y, ty, pos, after, g⟩ (fun _ : Unit => undef) (fun _ => AI b et cs' :: r) := by subst hn; exact dF hx hy ho h1
theorem QN {t et : TypeId} {s bb : Nat} {z : List Value} [h : CX P t s bb z] {x y : Operand} {b off : Nat} {cs vs : List Value} {r : List AQ} (cs' : List Value) (hx : BQ env x = some (.pointer (some ⟨b, off, none⟩))) (hy : BQ env y = some (.agg vs.toArray)) [hp : FR l b et cs r] (hl : vs.length = s) (ho : off + vs.length ≤ cs.length) (h1 : ∀ v ∈ vs, v.oneCell' = true) (hn : FH cs off vs = cs') :
  FA P D w0 env l ⟨dst, .store t x y, ty, pos, after, g⟩ (fun _ : Unit => undef) (fun _ => AI b et cs' :: r) := by subst hn; exact WI hx hy hl ho h1
theorem kF {t e : TypeId} {bb sz n cap : Nat} {z : List Value} [h : CX P t 1 bb z] {x y : Operand} {A : Option Addr} {o : Nat} {cs : List Value} {r : List AQ} {v : Value} (cs' : List Value) (hx : BQ env x = some (.pointer (some ⟨ab A, ao A + o, none⟩))) (hy : BQ env y = some v) [hp : GC l A e sz n cap cs r] (ho : o < cs.length) (h1 : v.oneCell' = true) (hn : cs.set o v = cs') :
  FA P D w0 env l ⟨dst, .store t x y, ty, pos, after, g⟩ (fun _ : Unit => undef) (fun _ => row A e sz n cap cs' :: r) := by subst hn; exact nV hx hy ho h1
end
section
variable {α β : Type} {f : α → List β} {sz : Nat}
theorem FU (hf : ∀ x, (f x).length = sz) : ∀ (xs : List α), (xs.flatMap f).length = xs.length * sz
 | [] => by simp
 | x :: r => by rw [List.flatMap_cons, List.length_append, hf, FU hf r, List.length_cons, Nat.add_mul]; omega
theorem Q9 (hf : ∀ x, (f x).length = sz) : ∀ (xs : List α) (i j : Nat) (hi : i < xs.length), j < sz → (xs.flatMap f)[i * sz + j]? = (f xs[i])[j]?
 | x :: r, 0, j, _, hj => by rw [List.flatMap_cons, Nat.zero_mul, Nat.zero_add, List.getElem?_append_left (by rw [hf]; exact hj)]; rfl
 | x :: r, i + 1, j, hi, hj => by
  rw [List.flatMap_cons, List.getElem?_append_right VF, hf, show (i + 1) * sz + j - sz = i * sz + j by rw [Nat.add_mul]; omega]
  exact Q9 hf r i j (by simpa using hi) hj
theorem WY {f : α → List Value} (hf : ∀ x, (f x).length = sz) : ∀ (xs : List α) (i : Nat) (y : α), i < xs.length → FH (xs.flatMap f) (i * sz) (f y) = (xs.set i y).flatMap f
 | x :: r, 0, y, _ => by
  rw [List.flatMap_cons, List.set_cons_zero, List.flatMap_cons, Nat.zero_mul]
  have := L2 [] (f x) (r.flatMap f) (f y) 0 rfl (by rw [hf, hf])
  simpa using this
 | x :: r, i + 1, y, hi => by
  rw [List.flatMap_cons, List.set_cons_succ, List.flatMap_cons, ← WY hf r i y (by simpa using hi)]
  have := WG (f x) (r.flatMap f) [] (f y) (i * sz) (by rw [FU hf, hf]; have : i < r.length := by simpa using hi
                                                       have := Nat.mul_le_mul_right sz (show i + 1 ≤ r.length by omega); rw [Nat.add_mul] at this; omega)
  rw [hf, List.append_nil, List.append_nil] at this
  rw [show (i + 1) * sz = sz + i * sz by rw [Nat.add_mul]; omega]
  exact this
end
theorem DZ.row {D : Nat → Prop} {w0 : World} {l r : List AQ} {A : Option Addr} {t : TypeId} {sz n cap : Nat} {cs : List Value} [h : GC l A t sz n cap cs r] (hA : CN.CU A) {off : Nat} {vs : List Value} (hv : ∀ i v, vs[i]? = some v → cs[off + i]? = some v) : DZ D w0 l (ab A) (ao A + off) vs := fun w H i v hi => by
 rw [Nat.add_assoc]
 exact EH.row (D := D) (w0 := w0) (l := l) hA (hv i v hi) w H
theorem DZ.flat {D : Nat → Prop} {w0 : World} {l r : List AQ} {α : Type} {f : α → List Value} {sz : Nat} (hf : ∀ x, (f x).length = sz) {xs : List α} {A : Option Addr} {t : TypeId} {n cap : Nat} [h : GC l A t sz n cap (xs.flatMap f) r] (hA : CN.CU A) {i : Nat} (hi : i < xs.length) : DZ D w0 l (ab A) (ao A + i * sz) (f xs[i]) :=
 DZ.row hA fun j v hj => by
  have : j < sz := by
   rcases Nat.lt_or_ge j sz with h | h
   ·exact h
   ·rw [List.getElem?_eq_none (by rw [hf]; exact h)] at hj; cases hj
  rw [Q9 hf xs i j hi this]; exact hj
theorem DZ.sub {D : Nat → Prop} {w0 : World} {l : List AQ} {b off o : Nat} {cs vs : List Value} (h : DZ D w0 l b off cs) (hv : ∀ i v, vs[i]? = some v → cs[o + i]? = some v) : DZ D w0 l b (off + o) vs := fun w H i v hi => by
 rw [Nat.add_assoc]; exact h w H _ v (hv i v hi)
theorem Old.AI {D : Nat → Prop} {w0 : World} {b : Nat} {t : TypeId} {cs : List Value} (h : Old D w0 (CN.AI b t cs)) : UC D w0 b 0 cs := by
 obtain ⟨x, hx, fr, h1, h2⟩ := h
 obtain ⟨k1, k2⟩ := hx b _ h1
 refine ⟨k2, (Array.getElem?_eq_some_iff.1 k1).1, fun i v hv => ?_⟩
 simp [World.cell?, k1, hv]
theorem bO {l r : List AQ} {b : Nat} {t : TypeId} {cs : List Value} [h : FR l b t cs r] {y : Heap} (hs : DS l y) : CN.AI b t cs y := by
 obtain ⟨h1, h2, ⟨fr, a, c⟩, _, _, s1, _⟩ := R5 h.out hs
 exact ⟨fr, s1 _ _ a, c⟩
end CN

set_option linter.unusedVariables false
set_option linter.unusedSimpArgs false
namespace CN
open Go
def ob (b : Nat) (o : Obj) : AQ := fun h => h b = some o
theorem AH.gL {D : Nat → Prop} {w0 w : World} {l : List AQ} (H : AH D w0 w l) (o' : Obj) : AH D w0 (w.alloc o') (ob w.heap.size o' :: l) := by
 obtain ⟨h, a, b⟩ := H.own
 have hn : ∀ x o, h x = some o → x < w.heap.size := fun x o e => (Array.getElem?_eq_some_iff.1 (a x o e).1).1
 have hs : h w.heap.size = none := by
  cases e : h w.heap.size with
  | none => rfl
  | some o => exact absurd (hn _ _ e) (Nat.lt_irrefl _)
 refine ⟨H.os, H.tape, H.output, by have := H.size; simp; omega, fun x hx hd => ?_, fun x => if x = w.heap.size then some o' else h x, fun x o e => ?_, ?_⟩
 ·rw [Go.RowKit.Below.heap_alloc _ _ _ (Nat.lt_of_lt_of_le hx H.size)]; exact H.old x hx hd
 ·by_cases hx : x = w.heap.size
  ·subst hx
   simp only [if_true, Option.some.injEq] at e
   subst e
   refine ⟨World.alloc_heap_new w _, fun hlt => ?_⟩
   have := H.size
   omega
  ·simp only [hx, if_false] at e
   rw [Go.RowKit.Below.heap_alloc _ _ _ (hn _ _ e)]
   exact a x o e
 ·refine ⟨fun x => if x = w.heap.size then some o' else none, h, by simp [ob], b, fun x => ?_, fun x o e => ?_, fun x o e => ?_⟩
  ·by_cases hx : x = w.heap.size
   ·subst hx; exact .inr hs
   ·left; simp [hx]
  ·by_cases hx : x = w.heap.size
   ·simp only [hx, if_true] at e ⊢; exact e
   ·simp [hx] at e
  ·have : x ≠ w.heap.size := by rintro rfl; rw [hs] at e; cases e
   simp [this, e]
theorem AH.RM {D : Nat → Prop} {w0 w : World} {l : List AQ} {b : Nat} {o : Obj} (H : AH D w0 w (ob b o :: l)) : w.heap[b]? = some o := by
 obtain ⟨h, a, h1, h2, p, _, _, s1, _⟩ := H.own
 exact (a b _ (s1 _ _ p)).1
theorem AH.U6 {D : Nat → Prop} {w0 w : World} {l : List AQ} {b : Nat} {o : Obj} (H : AH D w0 w (ob b o :: l)) (o' : Obj) : AH D w0 (w.putObj b o') (ob b o' :: l) := by
 have hb := H.RM
 have hlt : b < w.heap.size := (Array.getElem?_eq_some_iff.1 hb).1
 obtain ⟨h, a, h1, h2, p, q, d, s1, s2⟩ := H.own
 have hh2 : h2 b = none := by
  rcases d b with e | e
  ·rw [p] at e; cases e
  ·exact e
 refine ⟨H.os, H.tape, H.output, by rw [World.putObj_size]; exact H.size, fun x hx hd => ?_, fun x => if x = b then some o' else h x, fun x o e => ?_, ?_⟩
 ·have : x ≠ b := by rintro rfl; exact hd ((a _ _ (s1 _ _ p)).2 hx)
  rw [World.putObj_heap_other this]; exact H.old x hx hd
 ·by_cases hx : x = b
  ·subst hx
   simp only [if_true, Option.some.injEq] at e
   subst e
   exact ⟨World.putObj_heap_same hlt, (a _ _ (s1 _ _ p)).2⟩
  ·simp only [hx, if_false] at e
   rw [World.putObj_heap_other hx]
   exact a x o e
 ·refine ⟨fun x => if x = b then some o' else none, h2, by simp [ob], q, fun x => ?_, fun x o e => ?_, fun x o e => ?_⟩
  ·by_cases hx : x = b
   ·subst hx; exact .inr hh2
   ·left; simp [hx]
  ·by_cases hx : x = b
   ·simp only [hx, if_true] at e ⊢; exact e
   ·simp [hx] at e
  ·have : x ≠ b := by rintro rfl; rw [hh2] at e; cases e
   simp [this, s2 _ _ e]

structure NL (F : Fence) : Prop where
 fn : ∀ f, F.fn f
 depth : F.depth = none
 calls : ∀ {m : Nat} {P : Program} {f : FuncId} {args : Array Value} {w : World} {R : Ending → World → Prop}, Calls P f args w R → CallsIn F m P f args w R
theorem NL.wide : NL Fence.wide := ⟨fun _ => trivial, rfl, fun h => callsIn_wide.2 h⟩
theorem NL.round (l : Nat) : NL (Fence.wide.inRound l) := ⟨fun _ => trivial, rfl, fun {m P f args w R} h => show CallsIn (Fence.wide.inRound l) m P f args w R from (callsIn_wide.2 h : CallsIn Fence.wide m P f args w R)⟩
def fK (F : Fence) (m : Nat) (P : Program) (l : Nat) (args : Array Value) (W : World) (R : Ending → World → Prop) : Prop :=
 ∃ fn tmps assign body, (Instr.yield l args).run P W = .ok (.round l fn tmps assign body) W ∧ RoundIn F m P l fn tmps assign body W R
theorem QZ {ro : Option Nat} {ρ : Operand → Value} {o : Oper} {P : Program} {w w' : World} {x : Next} (h : (execOp ρ o).run P w = .ok x w') (hx : ∀ d, x ≠ .defer d) : (Oper.semAt ro ρ o).run P w = .ok x w' := by
 by_cases hd : ∃ c, o.op = .defer c
 ·obtain ⟨c, hc⟩ := hd
  exfalso
  simp only [execOp, hc, Sem.run_bind] at h
  cases hr : (resolve ρ c o.type).run P w with
  | ok d w1 =>
   rw [hr] at h
   simp only [Result.andThen, Sem.run_pure] at h
   injection h with h1 _
   exact hx d h1.symm
  | halt k w1 => rw [hr] at h; simp [Result.andThen] at h
 ·rw [Oper.semAt_eq _ _ _ (fun c e => hd ⟨c, e⟩)]; exact h

structure OH (ds : List Deferred) (D : Nat → Prop) (w0 : World) (n : Nat) (env : BH) (l : List AQ) (a : Act) (w : World) : Prop where
 env : Env n { a with defers := [] } env
 ds : a.defers = ds
 own : AH D w0 w l
structure HD (F : Fence) (ds : List Deferred) (P : Program) (Q : Post) (D : Nat → Prop) (w0 : World) (n : Nat) (env : BH) (l : List AQ) (c : Code) : Prop where
 run : ∀ a w, OH ds D w0 n env l a w → c.wpIn F 0 P Q a w
structure J1 (F : Fence) (ds : List Deferred) (P : Program) (ops : Array Oper) (Q : Post) (D : Nat → Prop) (w0 : World) (n : Nat) (env : BH) (l : List AQ) (r : List Oper) : Prop where
 run : ∀ a w, OH ds D w0 n env l a w → wpListIn F 0 P ops Q r a w
structure JJ (ds : List Deferred) (Q : Post) (e : Exit) (D : Nat → Prop) (w0 : World) (n : Nat) (env : BH) (l : List AQ) : Prop where
 run : ∀ a w, OH ds D w0 n env l a w → Q e a w
theorem Env.plain {n : Nat} {a : Act} {env : BH} (h : Env n a env) : Env n { a with defers := [] } env := ⟨h.size, rfl, h.get⟩
theorem OH.plain {D : Nat → Prop} {w0 : World} {n : Nat} {env : BH} {l : List AQ} {a : Act} {w : World} (S : OH [] D w0 n env l a w) : St D w0 n env l a w := ⟨⟨S.env.size, S.ds, S.env.get⟩, S.own⟩
theorem St.tQ {D : Nat → Prop} {w0 : World} {n : Nat} {env : BH} {l : List AQ} {a : Act} {w : World} (S : St D w0 n env l a w) : OH [] D w0 n env l a w := ⟨S.env.plain, S.env.defers, S.own⟩
theorem OH.put {ds : List Deferred} {D : Nat → Prop} {w0 : World} {n : Nat} {env : BH} {l l' : List AQ} {a : Act} {w w' : World} (S : OH ds D w0 n env l a w) {d : Nat} (hd : Nat.blt d n = true) (v : Value) (H : AH D w0 w' l') : OH ds D w0 n ((d, v) :: env) l' (a.put (some d) v) w' := ⟨S.env.put hd v, S.ds, H⟩

section
variable {F : Fence} {ds : List Deferred} {P : Program} {Q : Post} {D : Nat → Prop} {w0 : World} {n : Nat} {env : BH} {l : List AQ} {ops : Array Oper} {r : List Oper} {o : Oper}
theorem HD.AK {l' : List AQ} {c : Code} (hl : AD l l') (h : HD F ds P Q D w0 n env l' c) : HD F ds P Q D w0 n env l c := .mk fun a w S => h.run a w ⟨S.env, S.ds, S.own.AK hl⟩
theorem JJ.AK {l' : List AQ} {e : Exit} (hl : AD l l') (h : JJ ds Q e D w0 n env l') : JJ ds Q e D w0 n env l := .mk fun a w S => h.run a w ⟨S.env, S.ds, S.own.AK hl⟩
theorem qV {c : Code} (h : HD Fence.wide [] P Q D w0 n env l c) : HC P Q D w0 n env l c := .mk fun a w S => wpIn_wide.1 (h.run a w S.tQ)
theorem oH {e : Exit} (h : HX Q e D w0 n env l) : JJ [] Q e D w0 n env l := .mk fun a w S => h.run a w S.plain

theorem ND {x y : Code} (h : HD F ds P (Exit.then (y.wpIn F 0 P Q) Q) D w0 n env l x) : HD F ds P Q D w0 n env l (Code.seq x y) := .mk fun a w S => wpIn_seq (h.run a w S)
theorem dD (h : JJ ds Q .normal D w0 n env l) : HD F ds P Q D w0 n env l .skip := .mk fun a w S => wpIn_skip (h.run a w S)
theorem qU (h : JJ ds Q .ret D w0 n env l) : HD F ds P Q D w0 n env l .ret := .mk fun a w S => wpIn_ret (h.run a w S)
theorem bQ {i : Nat} {c : Code} (h : HD F ds P (Exit.inBlock i Q) D w0 n env l c) : HD F ds P Q D w0 n env l (.block i c) := .mk fun a w S => wpIn_block (h.run a w S)
theorem cR {c : Operand} {x y : Code} {p : Prop} [Decidable p] (hc : BQ env c = some (.bool (decide p))) (ht : p → HD F ds P Q D w0 n env l x) (hf : ¬ p → HD F ds P Q D w0 n env l y) : HD F ds P Q D w0 n env l (.cond c x y) := .mk fun a w S => by
 have e : a.eval c = _ := S.env.eval hc
 by_cases hp : p
 ·exact wpIn_cond_true (by rw [e, decide_eq_true hp]) ((ht hp).run a w S)
 ·exact wpIn_cond_false (by rw [e, decide_eq_false hp]) ((hf hp).run a w S)
theorem iM {c : Operand} {x y : Code} (hc : BQ env c = some (.bool false)) (ht : HD F ds P Q D w0 n env l y) : HD F ds P Q D w0 n env l (.cond c x y) := .mk fun a w S =>
 wpIn_cond_false (S.env.eval hc) (ht.run a w S)
theorem lE {c : Operand} {x y : Code} {p : Prop} [Decidable p] (hc : BQ env c = some (.bool (decide p))) (hp : p) (ht : HD F ds P Q D w0 n env l x) : HD F ds P Q D w0 n env l (.cond c x y) :=
 cR hc (fun _ => ht) (fun h => absurd hp h)
theorem lJ {c : Operand} {x y : Code} {p : Prop} [Decidable p] (hc : BQ env c = some (.bool (decide p))) (hp : ¬ p) (ht : HD F ds P Q D w0 n env l y) : HD F ds P Q D w0 n env l (.cond c x y) :=
 cR hc (fun h => absurd h hp) (fun _ => ht)
theorem M7 {y : Code} {Q' : Post} (h : HD F ds P Q' D w0 n env l y) : JJ ds (Exit.then (y.wpIn F 0 P Q') Q) .normal D w0 n env l := ⟨h.run⟩
theorem X6 {y : Code} {Q' : Post} (h : HD Fence.wide ds P Q' D w0 n env l y) : JJ ds (Exit.then (y.wp P Q') Q) .normal D w0 n env l := ⟨fun a w S => wpIn_wide.1 (h.run a w S)⟩
theorem TA {i : Nat} (h : JJ ds Q .normal D w0 n env l) : JJ ds (Exit.inBlock i Q) .normal D w0 n env l := ⟨h.run⟩
theorem L3 {id : Nat} {r : List Oper} (h : J1 F ds P r.toArray Q D w0 n env l r) : HD F ds P Q D w0 n env l (.region id r.toArray false) := .mk fun a w S => wpIn_region_lit (h.run a w S)
theorem L8 (h : JJ ds Q .normal D w0 n env l) : J1 F ds P ops Q D w0 n env l [] := .mk fun a w S => wpListIn_nil (h.run a w S)
theorem qD (hF : NL F) {d : Nat} {v : Value} (h : DI P D w0 env l o v) (hd : o.dst = some d) (hg : o.guard = none) (hn : Nat.blt d n = true) (k : J1 F ds P ops Q D w0 n ((d, v) :: env) l r) : J1 F ds P ops Q D w0 n env l (o :: r) := .mk fun a w S => by
 refine wpListIn_plain hg fun K hK => ?_
 unfold Oper.wpIn
 refine ⟨fun f _ => hF.fn f, ?_⟩
 have h0 := h.run n { a with defers := [] } w S.env S.own
 have h1 : (execOp a.eval o).run P w = .ok (.value v) w := h0
 rw [QZ h1 RQ, Oper.uponIn_value, hd]
 exact hK _ _ (k.run _ w (S.put hn v S.own))
theorem o6 (hF : NL F) {d : Nat} {σ : Type} {v : σ → Value} {l' : σ → List AQ} (h : FA P D w0 env l o v l') (hd : o.dst = some d) (hg : o.guard = none) (hn : Nat.blt d n = true) (k : ∀ s, J1 F ds P ops Q D w0 n ((d, v s) :: env) (l' s) r) : J1 F ds P ops Q D w0 n env l (o :: r) := .mk fun a w S => by
 refine wpListIn_plain hg fun K hK => ?_
 unfold Oper.wpIn
 refine ⟨fun f _ => hF.fn f, ?_⟩
 obtain ⟨s, w', hr, H⟩ := h.run n { a with defers := [] } w S.env S.own
 rcases hr with hr | ⟨hr, hu⟩
 ·have h1 : (execOp a.eval o).run P w = _ := hr
  rw [QZ h1 RQ, Oper.uponIn_value, hd]
  exact hK _ _ ((k s).run _ w' (S.put hn _ H))
 ·have h1 : (execOp a.eval o).run P w = _ := hr
  rw [QZ h1 RQ, Oper.uponIn_skip, hd, ← hu]
  exact hK _ _ ((k s).run _ w' (S.put hn _ H))
theorem mJ (hF : NL F) {σ : Type} {v : σ → Value} {l' : σ → List AQ} (h : FA P D w0 env l o v l') (hd : o.dst = none) (hg : o.guard = none) (k : ∀ s, J1 F ds P ops Q D w0 n env (l' s) r) : J1 F ds P ops Q D w0 n env l (o :: r) := .mk fun a w S => by
 refine wpListIn_plain hg fun K hK => ?_
 unfold Oper.wpIn
 refine ⟨fun f _ => hF.fn f, ?_⟩
 obtain ⟨s, w', hr, H⟩ := h.run n { a with defers := [] } w S.env S.own
 rcases hr with hr | ⟨hr, hu⟩
 ·have h1 : (execOp a.eval o).run P w = _ := hr
  rw [QZ h1 RQ, Oper.uponIn_value, hd]
  exact hK _ _ ((k s).run _ w' ⟨S.env, S.ds, H⟩)
 ·have h1 : (execOp a.eval o).run P w = _ := hr
  rw [QZ h1 RQ, Oper.uponIn_skip, hd]
  exact hK _ _ ((k s).run _ w' ⟨S.env, S.ds, H⟩)
class RI (F : Fence) : Prop where out : NL F
instance : RI Fence.wide := ⟨NL.wide⟩
instance (l : Nat) : RI (Fence.wide.inRound l) := ⟨NL.round l⟩
theorem F5 [hF : RI F] {d : Nat} {v : Value} (h : DI P D w0 env l o v) (hd : o.dst = some d) (hg : o.guard = none) (hn : Nat.blt d n = true) (k : J1 F ds P ops Q D w0 n ((d, v) :: env) l r) : J1 F ds P ops Q D w0 n env l (o :: r) := qD hF.out h hd hg hn k
theorem PS [hF : RI F] {d : Nat} {σ : Type} {v : σ → Value} {l' : σ → List AQ} (h : FA P D w0 env l o v l') (hd : o.dst = some d) (hg : o.guard = none) (hn : Nat.blt d n = true) (k : ∀ s, J1 F ds P ops Q D w0 n ((d, v s) :: env) (l' s) r) : J1 F ds P ops Q D w0 n env l (o :: r) := o6 hF.out h hd hg hn k
theorem gX [hF : RI F] {d : Nat} {v : Value} {l' : List AQ} (h : FA P D w0 env l o (fun _ : Unit => v) (fun _ => l')) (hd : o.dst = some d) (hg : o.guard = none) (hn : Nat.blt d n = true) (k : J1 F ds P ops Q D w0 n ((d, v) :: env) l' r) : J1 F ds P ops Q D w0 n env l (o :: r) := PS h hd hg hn fun _ => k
theorem SQ [hF : RI F] {v : Value} {l' : List AQ} (h : FA P D w0 env l o (fun _ : Unit => v) (fun _ => l')) (hd : o.dst = none) (hg : o.guard = none) (k : J1 F ds P ops Q D w0 n env l' r) : J1 F ds P ops Q D w0 n env l (o :: r) := mJ hF.out h hd hg fun _ => k
theorem mM {d lp : Nat} {fx : Operand} {args : List Operand} {ats : Array TypeId} {ty : TypeId} {pos : String} {after : Array Edge} {vs : List Value} {v : Value} {l' : List AQ} (hf : BQ env fx = some (.func (.yield lp) #[] #[]))
  (hv : KG env args = some vs) (hn : Nat.blt d n = true) (hc : ∀ w, AH D w0 w l → fK Fence.wide 0 P lp vs.toArray w fun e w' => e = .returned v ∧ AH D w0 w' l')
  (k : J1 Fence.wide ds P ops Q D w0 n ((d, v) :: env) l' r) : J1 Fence.wide ds P ops Q D w0 n env l (⟨some d, .call ⟨.value fx, args.toArray, ats⟩, ty, pos, after, none⟩ :: r) := .mk fun a w S => by
 refine wpListIn_plain rfl fun K hK => ?_
 unfold Oper.wpIn
 refine ⟨fun f _ => trivial, ?_⟩
 obtain ⟨fn, tmps, assign, body, hy, hR⟩ := hc w S.own
 have hrun : (execOp a.eval ⟨some d, .call ⟨.value fx, args.toArray, ats⟩, ty, pos, after, none⟩).run P w = .ok (.round lp fn tmps assign body) w := by
  have he : args.map a.eval = vs := S.env.O5 hv
  have hfe : a.eval fx = _ := S.env.eval hf
  simp [execOp, resolve, Deferred.ofValue, hfe, invoke, he, hy]
 rw [QZ hrun RQ, Oper.uponIn_round]
 refine ⟨fun h => (by simp [Fence.wide] at h), hR.mono fun e w' ⟨he, H⟩ => ?_⟩
 subst he
 exact hK _ _ (k.run _ w' (S.put hn _ H))

def MD (lp dp : Nat) (rec : Loop) (st : LoopState) : AQ := fun h => DS [ob lp (.loop { rec with state := st, pending := none }), ob dp (.deferred (some []))] h
theorem TR {lp dp : Nat} {rec : Loop} {st : LoopState} {r : List AQ} : AD (MD lp dp rec st :: r) (ob lp (.loop { rec with state := st, pending := none }) :: ob dp (.deferred (some [])) :: r) := fun h e => ZM.1 e
theorem V3 {lp dp : Nat} {rec : Loop} {st : LoopState} {r : List AQ} : AD (ob lp (.loop { rec with state := st, pending := none }) :: ob dp (.deferred (some [])) :: r) (MD lp dp rec st :: r) := fun h e => ZM.2 e
def gB (P : Program) (D : Nat → Prop) (w0 : World) (gf : Nat) (lb : List Value) (N : Nat) (enc : Nat → Value) (L : Nat → List AQ) : Prop :=
 ∀ (lp : Nat) (X : AQ) (W : World), AH D w0 W (X :: L 0) →
  (∀ k W, k < N → AH D w0 W (X :: L k) → fK Fence.wide 0 P lp #[enc k] W fun e W' => e = .returned (.bool true) ∧ AH D w0 W' (X :: L (k + 1))) →
  Calls P gf (.func (.yield lp) #[] #[] :: lb).toArray W fun e W' => ∃ v, e = .returned v ∧ AH D w0 W' (X :: L N)
def XQ (P : Program) (lp : Nat) (body : Code) (R : Ending → World → Prop) : Act → World → Prop := fun a1 w1 => ∃ w2, (Instr.beginRound lp).run P w1 = .ok () w2 ∧ body.wpIn (Fence.wide.inRound lp) 0 P (roundPost P lp R) a1 w2
def XP (D : Nat → Prop) (w0 : World) (l : List AQ) : Ending → World → Prop := fun e W' => e = .returned (.bool true) ∧ AH D w0 W' l
theorem nE {lp dp : Nat} {rec : Loop} {body : Code} {R : Ending → World → Prop} (h : HD (Fence.wide.inRound lp) [] P (roundPost P lp R) D w0 n env (MD lp dp rec .busy :: l) body) :
  JJ [] (Exit.then (XQ P lp body R) (fun _ _ _ => False)) .normal D w0 n env (MD lp dp rec .ready :: l) := .mk fun a w S => by
 have H := S.own.AK TR
 exact ⟨_, run_beginRound H.RM rfl, h.run a _ ⟨S.env, S.ds, (H.U6 _).AK V3⟩⟩
theorem eI {lp dp : Nat} {rec : Loop} {l' : List AQ} (hl : AD l (MD lp dp rec .busy :: l')) : JJ [] (roundPost P lp (XP D w0 (MD lp dp rec .ready :: l'))) .normal D w0 n env l := .mk fun a w S => by
 have H := (S.own.AK hl).AK TR
 exact ⟨_, _, run_endRound none H.RM, rfl, (H.U6 _).AK V3⟩
theorem iZ {g : Operand} {p : Tmp} {assign body : Code} {gf : Nat} {lb : List Value} (hg : BQ env g = some (.func (.func gf) #[] lb.toArray)) (eg : ∀ args w, (callFunc gf args).run P w = .ok (.enter gf args) w) (hp : Nat.blt p n = true)
  (N : Nat) (enc : Nat → Value) (L : Nat → List AQ) (h0 : AD l (L 0)) (hseq : gB P D w0 gf lb N enc L)
  (hround : ∀ lp dp rec k, k < N → HD (Fence.wide.inRound lp) [] P (Exit.then (XQ P lp body (XP D w0 (MD lp dp rec .ready :: L (k + 1)))) (fun _ _ _ => False)) D w0 n ((p, enc k) :: env) (MD lp dp rec .ready :: L k) assign)
  (hdone : ∀ dp, JJ [⟨.collected dp, #[]⟩] Q .normal D w0 n env (ob dp (.deferred (some [])) :: L N)) :
  HC P Q D w0 n env l (.rangeFunc g #[p] assign body) := .mk fun a w S => by
 refine (wpIn_wide (n := 0)).1 (wpIn_rangeFunc ?_)
 intro fn hfn
 obtain ⟨rec, hrec⟩ : ∃ rec : Loop, rec = { state := .ready, pending := none, fn, tmps := a.tmps, params := #[p], assign, body, defers := w.heap.size } := ⟨_, rfl⟩
 have H1 := (((S.own.AK h0).gL (.deferred (some []))).gL (.loop rec))
 rw [World.size_alloc] at H1
 have H2 : AH D w0 ((w.alloc (.deferred (some []))).alloc (.loop rec)) (MD (w.heap.size + 1) w.heap.size rec .ready :: L 0) := by
  refine AH.AK ?_ V3
  have : ({ rec with state := .ready, pending := none } : Loop) = rec := by rw [hrec]
  rw [this]; exact H1
 have hge : a.eval g = _ := S.env.eval hg
 refine ⟨w.heap.size + 1, [{ target := .collected w.heap.size, args := #[] }], (w.alloc (.deferred (some []))).alloc (.loop rec), { target := .fn (.func gf) lb.toArray, args := #[.func (.yield (w.heap.size + 1)) #[] #[]] }, (w.alloc (.deferred (some []))).alloc (.loop rec), gf,
  (.func (.yield (w.heap.size + 1)) #[] #[] :: lb).toArray, (w.alloc (.deferred (some []))).alloc (.loop rec), ?_, ?_, ?_, ?_, fun h => by simp [Fence.wide] at h, ?_⟩
 ·rw [hrec]; exact run_enterLoop_outer _ _ _ _ _
 ·simp only [resolve, hge]
  simp [go_sem]
 ·intro f' _; trivial
 ·simp [invoke, go_sem, eg]
 ·refine callsIn_wide.2 ((hseq (w.heap.size + 1) _ _ H2 ?_).mono ?_)
  ·intro k W hk H
   have hl := (H.AK TR).RM
   have hy := run_yield (P := P) (args := #[enc k]) hl (by rw [hrec]; rfl)
   refine ⟨_, _, _, _, hy, roundIn_of_wpIn trivial ?_⟩
   have hb := (hround (w.heap.size + 1) w.heap.size rec k hk).run { tmps := a.tmps.setIfInBounds p (enc k), defers := [] } W ⟨?_, rfl, H⟩
   ·subst hrec
    unfold XQ XP at hb
    simpa using hb
   ·exact (S.env.put hp (enc k)).plain
  ·rintro e W2 ⟨v, rfl, H⟩
   have H3 := H.AK TR
   refine ⟨none, _, run_endLoop (P := P) H3.RM (by simp), ?_⟩
   refine (hdone w.heap.size).run _ _ ⟨S.env.plain, by rw [S.env.defers]; rfl, (H3.U6 _).AK (AD.drop (AD.refl _))⟩
theorem m9 {f : FuncId} {fn : Func} {c : Code} {vs : List Value} {w : World} {R : Ending → World → Prop} {D : Nat → Prop} {w0 : World} {l : List AQ} (hf : P.funcs[f]? = some fn) (hb : fn.body = some c) (n : Nat) (hn : fn.ntmps = n)
  (hv : Nat.ble vs.length n = true) (H : AH D w0 w l) (h : HC P (bodyPostM Fence.wide 0 P fn R) D w0 n (BX 0 vs) l c) : Calls P f vs.toArray w R := by
 have hv' : vs.length ≤ n := by simpa using hv
 refine (callsIn_wide (n := 0)).1 (callsIn_of_wp_marks (args := vs.toArray) hf hb trivial (wpIn_wide.2 (h.run _ w ⟨⟨by simp [hn]; omega, rfl, fun t v e => ?_⟩, H⟩)))
 obtain ⟨_, h2⟩ := VR vs 0 t v e
 have hlt : t < vs.length := by
  rcases Nat.lt_or_ge t vs.length with h | h
  ·exact h
  ·simp [List.getElem?_eq_none h] at h2
 simp only [Nat.sub_zero] at h2
 rw [Array.getElem?_append_left (by simpa using hlt)]
 simpa using h2
theorem j0 {fn : Func} {R : Ending → World → Prop} {e : Exit} (he : e = .normal ∨ e = .ret) {t u dp : Nat} (hr : fn.results = #[.tmp t, .tmp u]) {v z : Value} (hv : BH.get env t = some v) (hz : BH.get env u = some z) {l' : List AQ} [hl : GP l (ob dp (.deferred (some []))) l']
  (h : ∀ w, AH D w0 w l' → R (.returned (.tuple #[v, z])) w) : JJ [⟨.collected dp, #[]⟩] (bodyPostM Fence.wide 0 P fn R) e D w0 n env l := .mk fun a w S => by
 have H := S.own.AK (AD.perm hl.out)
 have k := results_tmp2 hr a.tmps P (w.putObj dp (.deferred none))
 rw [show a.tmps.getD t undef = v from S.env.getD hv, show a.tmps.getD u undef = z from S.env.getD hz] at k
 have hL : LeavesInM Fence.wide 0 P fn a.tmps R a.defers .returning w := by
  rw [S.ds]
  exact ⟨by simp, .inl ⟨dp, _, rfl, run_takeDeferred H.RM, _, k, h _ ((H.U6 _).AK (AD.drop (AD.refl _)))⟩⟩
 rcases he with rfl | rfl <;> exact hL
end
end CN

set_option linter.unusedVariables false
set_option linter.unusedSimpArgs false
namespace CN
open Go
section
variable {P : Program} {D : Nat → Prop} {w0 : World} {env : BH} {l : List AQ} {dst : Option Tmp} {ty : TypeId} {pos : String} {after : Array Edge} {g : Option (Nat × Bool)}
theorem N4 {t e : TypeId} [h : E6 P t e] {x : Operand} {b : Option Addr} {n cap : Nat} (hx : BQ env x = some (.slice b n cap)) : DI P D w0 env l ⟨dst, .call ⟨.builtin .cap, #[x], #[t]⟩, ty, pos, after, g⟩ (.int .i64 cap) := .mk fun n' a w E H => by
 simp [execOp, resolve, invoke, builtin, E.eval hx, Builtin.cap_, run_underlying h.out, goInt]
theorem j7 {t e ti : TypeId} {s bb : Nat} {z : List Value} [h : E6 P t e] [hs : CX P e s bb z] [hi : ML P ti .i64] {x y : Operand} {m : Nat} {j : Int} (hx : BQ env x = some (.slice none 0 0)) (hy : BQ env y = some (.int .i64 j)) (hj : j = m) (hm : 0 < m) (hs0 : 0 < s) (hb0 : 0 < bb) (hb : m * bb ≤ 140737488355328) :
  FA P D w0 env l ⟨dst, .call ⟨.builtin .append, #[x, y], #[t, ti]⟩, ty, pos, after, g⟩ (fun p : Option Addr × Nat => .slice p.1 m p.2) (fun p => row p.1 e s m p.2 (DW z m) :: l) := .mk fun n' a w E H => by
 subst hj
 have hz := hs.len
 suffices hrun : ∃ p : Option Addr × Nat, ∃ w', (Builtin.append_ #[t, ti] ty #[.slice none 0 0, .int .i64 m]).run P w = .ok (.slice p.1 m p.2) w' ∧ AH D w0 w' (row p.1 e s m p.2 (DW z m) :: l) by
  obtain ⟨p, w', hr, hO⟩ := hrun
  refine ⟨p, w', .inl ?_, hO⟩
  simp [execOp, resolve, invoke, builtin, E.eval hx, E.eval hy, hr]
 obtain ⟨i, hi', hi1, hi2, zv, hi3, hi4⟩ := PO (P := P) (t := e)
 have hzs : zv.cells.size = s := by rw [← Array.length_toList, hi4, hz]
 have hneed : m ≤ 140737488355328 := Nat.le_trans (Nat.le_mul_of_pos_right _ hb0) hb
 have hcapge : m ≤ grownCap w m 0 e := by
  unfold grownCap Question.cut
  exact Nat.le_add_right _ _
 have hcaple : grownCap w m 0 e ≤ 9223372036854775807 := by
  unfold grownCap Question.cut
  have h2 : (2 : Nat) ^ 63 = 9223372036854775808 := by decide
  have := Nat.mod_lt (w.tape w.drawn (.appendCap m 0 e)) (show 0 < 2 ^ 63 - m by rw [h2]; omega)
  simp only
  rw [h2] at this ⊢
  omega
 have hzl : ∀ k, (DW z k).length = k * s := fun k => by rw [MH, hz]
 refine ⟨(some ⟨w.heap.size, 0, none⟩, grownCap w m 0 e), w.drew.alloc (.cells (DW z m ++ DW z (grownCap w m 0 e - m)).toArray e), ?_, (H.drew.alloc e (DW z m ++ DW z (grownCap w m 0 e - m))).AK (AD.head fun x hx => ?_)⟩
 ·have hne : ¬ (m = 0) := by omega
  have hms : ¬ (m * s = 0) := by
   have := Nat.mul_pos hm hs0
   omega
  have h63' : ¬ (9223372036854775807 < (m : Int)) := by omega
  have h48' : ¬ (281474976710656 < Builtin.nextslicecap m 0 * i.bytes) := by
   have := growslice_fits (need := m) (old := 0) (bytes := bb) hm (by simpa using hb)
   rw [hi2]; omega
  have h48'' : ¬ ((281474976710656 : Int) < (m : Int) * (i.bytes : Int)) := by
   rw [hi2]
   have : (m : Int) * (bb : Int) = ((m * bb : Nat) : Int) := by simp
   rw [this]; omega
  have hwr : IntKind.i64.wrap (m : Int) = m := wrap_i64 AA
  have hzz : (Builtin.zeroCells zv.cells (grownCap w m 0 e - m)) = (DW z (grownCap w m 0 e - m)).toArray := by
   apply Array.ext'; rw [PA, hi4]
  have hz2 : (Builtin.zeroCells zv.cells m) = (DW z m).toArray := by
   apply Array.ext'; rw [PA, hi4]
  have hs' : i.size ≠ 0 := by omega
  have hms2 : ¬ (m * i.size = 0) := by rw [hi1]; exact hms
  have hng : ¬ ((m : Int) < 0) := by omega
  simp [Builtin.append_, run_underlying h.out, run_underlying hi.out, asInt, asIntOf, hwr, hng, hms2, Go.sizeOf, typeInfo, zeroValue, hi', hi3, Builtin.lenOf, hne, hms, hs', h63', h48', h48'', Question.forced, run_firstCells_none]
  simp only [grownCap] at hzz
  simp [newRow, grownCap, hzz, hz2]
 ·refine ⟨hzl m, hcapge, hcaple, .inr ⟨w.heap.size, [], DW z (grownCap w m 0 e - m), rfl, ?_, by simpa using hx⟩⟩
  show (grownCap w m 0 e - m) * s ≤ _
  rw [hzl]; exact Nat.le_refl _
theorem AD.pQ {A : Option Addr} {t : TypeId} {sz n cap : Nat} {cs : List Value} {r : List AQ} : AD (row A t sz n cap cs :: r) (row A t sz 0 cap [] :: r) := AD.head fun h ⟨h1, h2, h3, h4⟩ => by
 refine ⟨by simp, Nat.zero_le _, h3, ?_⟩
 rcases h4 with h4 | ⟨b, pre, rest, rfl, h5, h6⟩
 ·exact .inl h4
 ·refine .inr ⟨b, pre, cs ++ rest, rfl, ?_, by simpa [List.append_assoc] using h6⟩
  rw [List.length_append, h1, Nat.sub_zero]
  have : cap * sz = n * sz + (cap - n) * sz := by rw [← Nat.add_mul]; congr 1; omega
  omega
theorem BB.G1 {r : List AQ} {A : Option Addr} {t : TypeId} {sz n cap : Nat} {cs : List Value} [h : GC l A t sz n cap cs r] (hA : cs ≠ [] → CN.CU A) : BB D w0 l A cs := BB.row (h := ⟨h.out⟩) hA
end
section
variable {σ : Type} {L : σ → List AQ} {F : Fence} {ds : List Deferred} {P : Program} {Q : Post} {D : Nat → Prop} {w0 : World} {n : Nat} {env : BH} {l : List AQ}
theorem HD.exs {c : Code} (k : ∀ x, HD F ds P Q D w0 n env (L x ++ l) c) : HD F ds P Q D w0 n env (GQ L :: l) c := .mk fun a w S => by
 obtain ⟨x, H⟩ := AH.exs S.own
 exact (k x).run a w ⟨S.env, S.ds, H⟩
theorem JJ.exs {e : Exit} (k : ∀ x, JJ ds Q e D w0 n env (L x ++ l)) : JJ ds Q e D w0 n env (GQ L :: l) := .mk fun a w S => by
 obtain ⟨x, H⟩ := AH.exs S.own
 exact (k x).run a w ⟨S.env, S.ds, H⟩
end
theorem CS.EP {D : Nat → Prop} {w0 : World} {A : Option Addr} {α : Type} {f : α → List Value} {sz : Nat} (hf : ∀ x, (f x).length = sz) (h0 : 0 < sz) {S : List α} (HS : CS D w0 A (S.flatMap f)) {k : Nat} (hk : k < S.length) (l : List AQ) : CN.CU A ∧ DZ D w0 l (ab A) (ao A + k * sz) (f S[k]) := by
 have hne : S.flatMap f ≠ [] := fun e => by
  have := congrArg List.length e
  rw [FU hf] at this
  have h2 : 0 < S.length * sz := Nat.mul_pos AA h0
  rw [this] at h2; simp at h2
 refine ⟨HS.CU hne, DZ.sub ((BB.old (l := l) HS).cells hne) fun i v hv => ?_⟩
 have : i < sz := by
  rcases Nat.lt_or_ge i sz with h | h
  ·exact h
  ·rw [List.getElem?_eq_none (by rw [hf]; exact h)] at hv; cases hv
 rw [Q9 hf S k i hk this]; exact hv
end CN

set_option linter.unusedVariables false
set_option linter.unusedSimpArgs false
namespace CN
open Go
section
variable {P : Program} {Q : Post} {D : Nat → Prop} {w0 : World} {n : Nat} {env : BH} {l : List AQ} {ops : Array Oper} {r tail : List Oper} {o : Oper}
theorem AZ {d : Nat} {v : Value} (h : DI P D w0 env l o v) (hd : o.dst = some d) (k : HL P ops Q D w0 n ((d, v) :: env) l r) (hg : o.guard = none := by rfl) (hn : Nat.blt d n = true := by rfl) : HL P ops Q D w0 n env l (o :: r) := FG h hd hg hn k
theorem AM {d : Nat} {v : Value} (h : DI P D w0 env l o v) (hd : o.dst = some d) (k : HQ P ops Q D w0 n ((d, v) :: env) l r) (hg : o.guard = none := by rfl) (hn : Nat.blt d n = true := by rfl) : HQ P ops Q D w0 n env l (o :: r) := RA h hd hg hn k
theorem AT {d : Nat} {v : Value} (h : DI P D w0 env l o v) (hd : o.dst = some d) (k : HT P ops Q D w0 n ((d, v) :: env) l tail r) (hg : o.guard = none := by rfl) (hn : Nat.blt d n = true := by rfl) : HT P ops Q D w0 n env l tail (o :: r) := gN h hd hg hn k
variable {L0 : List AQ} {fuel : Nat} {listed : Array Bool} {rl : List Oper}
theorem AE (i : Nat) {d : Nat} {v : Value} (hi : I0 rl i = some o) (h : DI P D w0 env L0 o v) (hd : o.dst = some d) [hq : PB Q]
  (k : HA P rl.toArray Q D w0 n ((d, v) :: env) l L0 fuel (listed.setIfInBounds i true)) (hg : JB rl.toArray env o.guard = some true := by rfl) (hn : Nat.blt d n = true := by rfl)
  (hs : Region.noSelect rl.toArray = true := by kernel_rfl) (hf : Region.free .any rl.toArray listed i = true := by kernel_rfl) (hr : (Region.ready .any rl.toArray listed).contains i = true := by kernel_rfl) (hE : AD l L0 := by first | assumption | exact AD.refl _ | exact AD.nil _ | (repeat (first | exact AD.refl _ | exact AD.nil _ | refine AD.pick ?_))) :
  HA P rl.toArray Q D w0 n env l L0 (fuel + 1) listed := qL i hi h hd hg hn hs hf hr hE k
theorem CM (i : Nat) {d : Nat} (hi : I0 rl i = some o) (hd : o.dst = some d) [hq : PB Q]
  (k : HA P rl.toArray Q D w0 n ((d, undef) :: env) l L0 fuel (listed.setIfInBounds i true)) (hg : JB rl.toArray env o.guard = some false := by rfl) (hn : Nat.blt d n = true := by rfl)
  (hs : Region.noSelect rl.toArray = true := by kernel_rfl) (hf : Region.free .any rl.toArray listed i = true := by kernel_rfl) (hr : (Region.ready .any rl.toArray listed).contains i = true := by kernel_rfl) (hE : AD l L0 := by first | assumption | exact AD.refl _ | exact AD.nil _ | (repeat (first | exact AD.refl _ | exact AD.nil _ | refine AD.pick ?_))) :
  HA P rl.toArray Q D w0 n env l L0 (fuel + 1) listed := sJ i hi hd hg hn hs hf hr hE k
theorem CW {i : Nat} (hi : I0 rl i = some o) {d : Nat} {v : Value} (h : DI P D w0 env l o v) (hd : o.dst = some d) (k : HA P rl.toArray Q D w0 n ((d, v) :: env) l L0 fuel (listed.setIfInBounds i true)) (hg : JB rl.toArray env o.guard = some true := by rfl) (hn : Nat.blt d n = true := by rfl)
  (hE : AD l L0 := by first | assumption | exact AD.refl _ | exact AD.nil _ | (repeat (first | exact AD.refl _ | exact AD.nil _ | refine AD.pick ?_))) : HO P rl.toArray Q D w0 n env l L0 i fuel listed := sG hi h hd hg hn hE k
theorem BC {i : Nat} (hi : I0 rl i = some o) {d : Nat} {σ : Type} {v : σ → Value} {l' : σ → List AQ} (h : FA P D w0 env l o v l') (hd : o.dst = some d) (k : ∀ s, HA P rl.toArray Q D w0 n ((d, v s) :: env) (l' s) L0 fuel (listed.setIfInBounds i true)) (hg : JB rl.toArray env o.guard = some true := by rfl) (hn : Nat.blt d n = true := by rfl)
  (hE : ∀ s, AD (l' s) L0 := by intro _; first | assumption | exact AD.refl _ | exact AD.nil _ | (repeat (first | exact AD.refl _ | exact AD.nil _ | refine AD.pick ?_))) : HO P rl.toArray Q D w0 n env l L0 i fuel listed := rU hi h hd hg hn hE k
theorem CB {i : Nat} (hi : I0 rl i = some o) {v : Value} {l' : List AQ} (h : FA P D w0 env l o (fun _ : Unit => v) (fun _ => l')) (hd : o.dst = none) (k : HA P rl.toArray Q D w0 n env l' L0 fuel (listed.setIfInBounds i true)) (hg : JB rl.toArray env o.guard = some true := by rfl)
  (hE : AD l' L0 := by first | assumption | exact AD.refl _ | exact AD.nil _ | (repeat (first | exact AD.refl _ | exact AD.nil _ | refine AD.pick ?_))) : HO P rl.toArray Q D w0 n env l L0 i fuel listed := sX hi h hd hg hE k
theorem OC {i d : Nat} (hi : I0 rl i = some o) (hd : o.dst = some d) (k : HA P rl.toArray Q D w0 n ((d, undef) :: env) l L0 fuel (listed.setIfInBounds i true)) (hg : JB rl.toArray env o.guard = some false := by rfl) (hn : Nat.blt d n = true := by rfl)
  (hE : AD l L0 := by first | assumption | exact AD.refl _ | exact AD.nil _ | (repeat (first | exact AD.refl _ | exact AD.nil _ | refine AD.pick ?_))) : HO P rl.toArray Q D w0 n env l L0 i fuel listed := sD hi hd hg hn hE k
theorem CR {i : Nat} {d f : Nat} {args : List Operand} {ats : Array TypeId} {ty : TypeId} {pos : String} {after : Array Edge} {gd : Option (Nat × Bool)} (hi : I0 rl i = some ⟨some d, .call ⟨.value (.func f), args.toArray, ats⟩, ty, pos, after, gd⟩) {vs : List Value} {σ : Type} {v : σ → Value} {l' : σ → List AQ} (hcf : ∀ args w, (callFunc f args).run P w = .ok (.enter f args) w)
  (hv : KG env args = some vs) (hc : ∀ w, AH D w0 w l → Calls P f vs.toArray w fun e w' => ∃ s, e = .returned (v s) ∧ AH D w0 w' (l' s))
  (k : ∀ s, HA P rl.toArray Q D w0 n ((d, v s) :: env) (l' s) L0 fuel (listed.setIfInBounds i true)) (hg : JB rl.toArray env gd = some true := by rfl) (hn : Nat.blt d n = true := by rfl)
  (hE : ∀ s, AD (l' s) L0 := by intro _; first | assumption | exact AD.refl _ | exact AD.nil _ | (repeat (first | exact AD.refl _ | exact AD.nil _ | refine AD.pick ?_))) : HO P rl.toArray Q D w0 n env l L0 i fuel listed := eM hi hcf hv hg hn hc hE k
theorem CY {i : Nat} {d f : Nat} {args : List Operand} {ats : Array TypeId} {ty : TypeId} {pos : String} {after : Array Edge} {gd : Option (Nat × Bool)} (hi : I0 rl i = some ⟨some d, .call ⟨.value (.func f), args.toArray, ats⟩, ty, pos, after, gd⟩) {vs : List Value} {v : Value} {l' : List AQ} (hcf : ∀ args w, (callFunc f args).run P w = .ok (.enter f args) w)
  (hv : KG env args = some vs) (hc : ∀ w, AH D w0 w l → Calls P f vs.toArray w fun e w' => e = .returned v ∧ AH D w0 w' l')
  (k : HA P rl.toArray Q D w0 n ((d, v) :: env) l' L0 fuel (listed.setIfInBounds i true)) (hg : JB rl.toArray env gd = some true := by rfl) (hn : Nat.blt d n = true := by rfl)
  (hE : AD l' L0 := by first | assumption | exact AD.refl _ | exact AD.nil _ | (repeat (first | exact AD.refl _ | exact AD.nil _ | refine AD.pick ?_))) : HO P rl.toArray Q D w0 n env l L0 i fuel listed := tM hi hcf hv hg hn hc hE k
end
end CN

set_option linter.unusedVariables false
set_option linter.unusedSimpArgs false
namespace CN
open Go
def EJ (b : Nat) (t : TypeId) (cs : List Value) : AQ := fun h => h b = some (.cells cs.toArray t (0, 0))
theorem p7 {b : Nat} {t : TypeId} {cs : List Value} : OI (EJ b t cs) (AI b t cs) := fun h e => ⟨(0, 0), e, .inl rfl⟩
theorem AD.EJ {b : Nat} {t : TypeId} {cs : List Value} {l : List AQ} : AD (EJ b t cs :: l) (AI b t cs :: l) := AD.head p7
theorem AH.sI {D : Nat → Prop} {w0 w : World} {l : List AQ} (H : AH D w0 w l) (t : TypeId) (cs : List Value) :
  AH D w0 (w.alloc (.cells cs.toArray t)) (EJ w.heap.size t cs :: l) := by
 obtain ⟨h, a, b⟩ := H.own
 have hn : ∀ x o, h x = some o → x < w.heap.size := fun x o e => (Array.getElem?_eq_some_iff.1 (a x o e).1).1
 have hs : h w.heap.size = none := by
  cases e : h w.heap.size with
  | none => rfl
  | some o => exact absurd (hn _ _ e) (Nat.lt_irrefl _)
 refine ⟨H.os, H.tape, H.output, by have := H.size; simp; omega, fun x hx hd => ?_, fun x => if x = w.heap.size then some (.cells cs.toArray t (0, 0)) else h x, fun x o e => ?_, ?_⟩
 ·rw [Go.RowKit.Below.heap_alloc _ _ _ (Nat.lt_of_lt_of_le hx H.size)]; exact H.old x hx hd
 ·by_cases hx : x = w.heap.size
  ·subst hx
   simp only [if_true, Option.some.injEq] at e
   subst e
   refine ⟨by show (w.heap.push _)[w.heap.size]? = _; simp, fun hlt => ?_⟩
   have := H.size
   omega
  ·simp only [hx, if_false] at e
   rw [Go.RowKit.Below.heap_alloc _ _ _ (hn _ _ e)]
   exact a x o e
 ·refine ⟨fun x => if x = w.heap.size then some (.cells cs.toArray t (0, 0)) else none, h, by simp [EJ], b, fun x => ?_, fun x o e => ?_, fun x o e => ?_⟩
  ·by_cases hx : x = w.heap.size
   ·subst hx; exact .inr hs
   ·left; simp [hx]
  ·by_cases hx : x = w.heap.size
   ·simp only [hx, if_true] at e ⊢; exact e
   ·simp [hx] at e
  ·have : x ≠ w.heap.size := by rintro rfl; rw [hs] at e; cases e
   simp [this, e]
theorem jG {b : Nat} {t : TypeId} {cs : List Value} : OI (EJ b t cs) (J5 (some ⟨b, 0, none⟩) cs) := fun h e => by
 by_cases hn : cs = []
 ·exact .inl hn
 ·exact .inr ⟨b, 0, t, cs.toArray, (0, 0), rfl, e, fun i v hv => by simpa using hv⟩
class P9 (l : List AQ) (b : Nat) (t : outParam TypeId) (cs : outParam (List Value)) (r : outParam (List AQ)) : Prop where out : l.Perm (EJ b t cs :: r)
instance (priority := 2000) P9.here (b : Nat) (t : TypeId) (cs : List Value) (r : List AQ) : P9 (EJ b t cs :: r) b t cs r := ⟨List.Perm.refl _⟩
instance (priority := 1000) P9.there (b : Nat) (t : TypeId) (cs : List Value) (B : AQ) (l r : List AQ) [h : P9 l b t cs r] : P9 (B :: l) b t cs (B :: r) := ⟨(List.Perm.cons B h.out).trans (List.Perm.swap (CN.EJ b t cs) B r)⟩
theorem BB.EJ {D : Nat → Prop} {w0 : World} {l : List AQ} {b : Nat} {t : TypeId} {cs : List Value} {r : List AQ} [h : P9 l b t cs r] : BB D w0 l (some ⟨b, 0, none⟩) cs := BB.XW h.out jG (fun _ => rfl)
theorem BB.NH {D : Nat → Prop} {w0 : World} {l : List AQ} {b : Nat} {t : TypeId} {cs : List Value} {r : List AQ} [h : FR l b t cs r] (off : Nat) {news : List Value} (hn : ∀ i v, news[i]? = some v → cs[off + i]? = some v) : BB D w0 l (some ⟨b, off, none⟩) news :=
 ⟨fun _ => rfl, fun _ => show DZ D w0 l b off news from DZ.AI hn⟩
theorem UM {a news c : List Value} : ∀ i v, news[i]? = some v → (a ++ news ++ c)[a.length + i]? = some v := fun i v hv => by
 have hi : i < news.length := by
  rcases Nat.lt_or_ge i news.length with h | h
  ·exact h
  ·rw [List.getElem?_eq_none h] at hv; cases hv
 rw [List.append_assoc, List.getElem?_append_right AA, Nat.add_sub_cancel_left, List.getElem?_append_left hi]
 exact hv
theorem nP {A : Option Addr} {t : TypeId} {sz n cap : Nat} {cs : List Value} {h : Heap} (k : row A t sz n cap cs h) (hne : 0 < cs.length) : ∃ b pre rest, A = some ⟨b, pre.length, none⟩ ∧ cs.length = n * sz ∧ n ≤ cap ∧ cap ≤ 9223372036854775807 ∧ (cap - n) * sz ≤ rest.length ∧ AI b t (pre ++ cs ++ rest) h := by
 obtain ⟨q1, q2, qm, q3⟩ := k
 rcases q3 with ⟨rfl, q⟩ | ⟨b, pre, rest, rfl, q5, q6⟩
 ·have : n = 0 := by omega
  subst this
  simp at q1
  rw [q1] at hne
  simp at hne
 ·exact ⟨b, pre, rest, rfl, q1, q2, qm, q5, q6⟩
section
variable {P : Program} {Q : Post} {D : Nat → Prop} {w0 : World} {n : Nat} {env : BH} {l r : List AQ} {ops : Array Oper} {A : Option Addr} {t : TypeId} {sz m cap : Nat} {cs : List Value}
theorem AH.cL {w : World} (H : AH D w0 w (row A t sz m cap cs :: l)) (hne : 0 < cs.length) : ∃ b pre rest, A = some ⟨b, pre.length, none⟩ ∧ cs.length = m * sz ∧ m ≤ cap ∧ cap ≤ 9223372036854775807 ∧ (cap - m) * sz ≤ rest.length ∧ AH D w0 w (AI b t (pre ++ cs ++ rest) :: l) := by
 obtain ⟨h, a, h1, h2, q, d, d2, s1, s2⟩ := H.own
 obtain ⟨b, pre, rest, e, e1, e2, e3, e4, e5⟩ := nP q hne
 exact ⟨b, pre, rest, e, e1, e2, e3, e4, ⟨H.os, H.tape, H.output, H.size, H.old, h, a, h1, h2, e5, d, d2, s1, s2⟩⟩
theorem HC.N1 (A : Option Addr) [hp : GC l A t sz m cap cs r] {c : Code} (hne : 0 < cs.length) (k : ∀ b pre rest, A = some ⟨b, pre.length, none⟩ → cs.length = m * sz → m ≤ cap → cap ≤ 9223372036854775807 → (cap - m) * sz ≤ rest.length → HC P Q D w0 n env (AI b t (pre ++ cs ++ rest) :: r) c) : HC P Q D w0 n env l c := .mk fun a w S => by
 obtain ⟨b, pre, rest, e, e1, e2, e3, e4, e5⟩ := AH.cL (S.own.AK (AD.perm hp.out)) hne
 exact (k b pre rest e e1 e2 e3 e4).run a w ⟨S.env, e5⟩
theorem HL.N1 (A : Option Addr) [hp : GC l A t sz m cap cs r] {c : List Oper} (hne : 0 < cs.length) (k : ∀ b pre rest, A = some ⟨b, pre.length, none⟩ → cs.length = m * sz → m ≤ cap → cap ≤ 9223372036854775807 → (cap - m) * sz ≤ rest.length → HL P ops Q D w0 n env (AI b t (pre ++ cs ++ rest) :: r) c) : HL P ops Q D w0 n env l c := .mk fun a w S => by
 obtain ⟨b, pre, rest, e, e1, e2, e3, e4, e5⟩ := AH.cL (S.own.AK (AD.perm hp.out)) hne
 exact (k b pre rest e e1 e2 e3 e4).run a w ⟨S.env, e5⟩
end
theorem AD.NF {b : Nat} {t : TypeId} {sz n cap : Nat} {pre cs rest : List Value} {l : List AQ} (h1 : cs.length = n * sz) (h2 : n ≤ cap) (h3 : cap ≤ 9223372036854775807) (h4 : (cap - n) * sz ≤ rest.length) : AD (AI b t (pre ++ cs ++ rest) :: l) (row (some ⟨b, pre.length, none⟩) t sz n cap cs :: l) :=
 AD.head fun h hb => ⟨h1, h2, h3, .inr ⟨b, pre, rest, rfl, h4, hb⟩⟩
theorem AD.dO {A : Option Addr} {t : TypeId} {sz n cap : Nat} {cs : List Value} {l : List AQ} (k : Nat) (hk : k ≤ n) : AD (row A t sz n cap cs :: l) (row A t sz k cap (cs.take (k * sz)) :: l) := AD.head fun h ⟨h1, h2, h3, h4⟩ => by
 have hm : k * sz ≤ n * sz := Nat.mul_le_mul_right _ hk
 refine ⟨by rw [List.length_take, h1, Nat.min_eq_left hm], by omega, h3, ?_⟩
 rcases h4 with h4 | ⟨b, pre, rest, e, h5, h6⟩
 ·exact .inl h4
 ·refine .inr ⟨b, pre, cs.drop (k * sz) ++ rest, e, ?_, ?_⟩
  ·rw [List.length_append, List.length_drop, h1]
   have e1 : (cap - k) * sz = (cap - n) * sz + (n - k) * sz := by rw [← Nat.add_mul]; congr 1; omega
   have e2 : (n - k) * sz = n * sz - k * sz := Nat.sub_mul _ _ _
   omega
  ·have : pre ++ cs.take (k * sz) ++ (cs.drop (k * sz) ++ rest) = pre ++ cs ++ rest := by
    rw [List.append_assoc, ← List.append_assoc (cs.take _), List.take_append_drop, List.append_assoc]
   rw [this]; exact h6
section
variable {P : Program} {D : Nat → Prop} {w0 : World} {env : BH} {l : List AQ} {dst : Option Tmp} {ty : TypeId} {pos : String} {after : Array Edge} {g : Option (Nat × Bool)}
theorem iL {t e : TypeId} {s bb m : Nat} {z : List Value} [h : E6 P t e] [hs : CX P e s bb z] {parts : List (Nat × Operand)} {vs : List (Nat × Value)} {res : List Value} (hv : MZ env parts = some vs) (hm : Nat.ble (m * s) 16777216 = true) (hf : KI (fun i => some (i * s, s)) (DW z m) vs = some res) :
  FA P D w0 env l ⟨dst, .buildSlice t m parts.toArray, ty, pos, after, g⟩ (fun b : Nat => .slice (some ⟨b, 0, none⟩) m m) (fun b => EJ b e res :: l) := .mk fun n a w E H => by
 have hz := hs.len
 obtain ⟨v, hz1, hz2⟩ := PR (P := P) (t := e) w
 have e1 : (parts.map fun p => (p.1, a.eval p.2)) = vs := E.U0 hv
 have hm' : m * s ≤ 16777216 := by simpa using hm
 refine ⟨w.heap.size, w.alloc (.cells res.toArray e), .inl ?_, H.sI e res⟩
 have hfill := fill_eq (fun i => some (i * s, s)) vs _ res hf
 have hsz : v.cells.size = s := by rw [← Array.length_toList, hz2, hz]
 by_cases h0 : m * s = 0
 ·have hzz : DW z m = [] := by
   rcases Nat.mul_eq_zero.1 h0 with h | h
   ·simp [DW, h]
   ·have : z = [] := List.eq_nil_of_length_eq_zero AA
    simp [DW, this]
  rw [hzz] at hfill
  have hgt : ¬ (m * s > 2 ^ 24) := by omega
  simp only [execOp, Instr.buildSlice, Sem.run_bind, run_underlying h.out, Result.andThen_ok, run_sizeOf (P := P) (t := e)]
  rw [if_neg hgt, if_pos h0]
  have hr0 : ∀ f : Nat → Value, Array.map f (Array.range (m * s)) = #[] := fun f => by rw [h0]; apply Array.ext'; simp
  simp only [hr0, Sem.run_pure, Result.andThen_ok]
  simp [e1, hfill, newRow]
 ·have hzz := T8 v.cells m
  rw [hz2] at hzz
  have hgt : ¬ (m * s > 2 ^ 24) := by omega
  simp only [execOp, Instr.buildSlice, Sem.run_bind, run_underlying h.out, Result.andThen_ok, run_sizeOf (P := P) (t := e)]
  rw [if_neg hgt, if_neg h0]
  have hz3 : (Array.range (m * s)).map (fun i => v.cells[i % v.cells.size]!) = (DW z m).toArray := by
   apply Array.ext'
   rw [← hzz, hsz]
  simp [hz1, e1, hz3, hfill, newRow]
theorem OL {t e : TypeId} {s bb m : Nat} {z : List Value} [h : E6 P t e] [hs : CX P e s bb z] {parts : List (Nat × Operand)} {vs : List (Nat × Value)} {res : List Value} (hv : MZ env parts = some vs) (hm : Nat.ble (m * s) 16777216 = true) (hf : SW (KI (fun i => some (i * s, s)) (DW z m) vs) = some res) :
  FA P D w0 env l ⟨dst, .buildSlice t m parts.toArray, ty, pos, after, g⟩ (fun b : Nat => .slice (some ⟨b, 0, none⟩) m m) (fun b => EJ b e res :: l) := iL hv hm (WU hf)
theorem iK {B : Option Addr} {news : List Value} {n m s capB : Nat} {w : World} (hl : news.length = n * s) (hmn : n ≤ m) (hA : news ≠ [] → CU B) (hc : news ≠ [] → ∀ i v, news[i]? = some v → w.cell? ⟨ab B, ao B + i, none⟩ = some v) :
  (Builtin.firstCells s n (.slice B m capB)).run P w = .ok news.toArray w := by
 by_cases hne : news = []
 ·subst hne
  have h0 : n * s = 0 := by simpa using hl.symm
  cases B with
  | none => simp [Builtin.firstCells]
  | some a => simp [Builtin.firstCells, loadCells, h0, loadCellsFrom]
 ·have h1 := hA hne
  rw [h1]
  exact run_firstCells_some w s n ⟨ab B, ao B, none⟩ m capB news hl (fun j v hj => by rw [L5]; exact hc hne j v hj)
theorem YX {t e ti : TypeId} {s bb : Nat} {z : List Value} [h : E6 P t e] [hs : CX P e s bb z] [hi : ML P ti .i64] {x y : Operand} {A : Option Addr} {n cap m : Nat} {j : Int} {cs : List Value} (hx : BQ env x = some (.slice A n cap)) (hy : BQ env y = some (.int .i64 j)) (hj : j = m) (hsrc : BB D w0 l A cs) (hcs : cs.length = n * s) (hm : 0 < m) (hcap : ¬ n + m ≤ cap) (hs0 : 0 < s) (hb0 : 0 < bb) (hb : (n + m) * bb ≤ 140737488355328) :
  FA P D w0 env l ⟨dst, .call ⟨.builtin .append, #[x, y], #[t, ti]⟩, ty, pos, after, g⟩ (fun p : Option Addr × Nat => .slice p.1 (n + m) p.2) (fun p => row p.1 e s (n + m) p.2 (cs ++ DW z m) :: l) := .mk fun n' a w E H => by
 subst hj
 have hz := hs.len
 suffices hrun : ∃ p : Option Addr × Nat, ∃ w', (Builtin.append_ #[t, ti] ty #[.slice A n cap, .int .i64 m]).run P w = .ok (.slice p.1 (n + m) p.2) w' ∧ AH D w0 w' (row p.1 e s (n + m) p.2 (cs ++ DW z m) :: l) by
  obtain ⟨p, w', hr, hO⟩ := hrun
  refine ⟨p, w', .inl ?_, hO⟩
  simp [execOp, resolve, invoke, builtin, E.eval hx, E.eval hy, hr]
 obtain ⟨i, hi', hi1, hi2, zv, hi3, hi4⟩ := PO (P := P) (t := e)
 have hzs : zv.cells.size = s := by rw [← Array.length_toList, hi4, hz]
 have hneed : n + m ≤ 140737488355328 := Nat.le_trans (Nat.le_mul_of_pos_right _ hb0) hb
 have hcapge : n + m ≤ grownCap w (n + m) cap e := by
  unfold grownCap Question.cut
  exact Nat.le_add_right _ _
 have hcaple : grownCap w (n + m) cap e ≤ 9223372036854775807 := by
  unfold grownCap Question.cut
  have h2 : (2 : Nat) ^ 63 = 9223372036854775808 := by decide
  have := Nat.mod_lt (w.tape w.drawn (.appendCap (n + m) cap e)) (show 0 < 2 ^ 63 - (n + m) by rw [h2]; omega)
  simp only
  rw [h2] at this ⊢
  omega
 have hzl : ∀ k, (DW z k).length = k * s := fun k => by rw [MH, hz]
 have hfo : (Builtin.firstCells s n (.slice A n cap)).run P w.drew = .ok cs.toArray w.drew := TB hcs hsrc.CU (fun k => hsrc.cells k w.drew H.drew)
 refine ⟨(some ⟨w.heap.size, 0, none⟩, grownCap w (n + m) cap e), w.drew.alloc (.cells (cs ++ DW z m ++ DW z (grownCap w (n + m) cap e - (n + m))).toArray e), ?_, (H.drew.alloc e (cs ++ DW z m ++ DW z (grownCap w (n + m) cap e - (n + m)))).AK (AD.head fun x hx => ?_)⟩
 ·have hne : ¬ (m = 0) := by omega
  have hms : ¬ (m * s = 0) := by
   have := Nat.mul_pos hm hs0
   omega
  have h63' : ¬ (9223372036854775807 < ((n : Int) + (m : Int))) := by omega
  have h48' : ¬ (281474976710656 < Builtin.nextslicecap (n + m) cap * i.bytes) := by
   have := growslice_fits (need := n + m) (old := cap) (bytes := bb) AA hb
   rw [hi2]; omega
  have hmb : m * bb ≤ (n + m) * bb := Nat.mul_le_mul_right _ AA
  have h48'' : ¬ ((281474976710656 : Int) < (m : Int) * (i.bytes : Int)) := by
   rw [hi2]
   have : (m : Int) * (bb : Int) = ((m * bb : Nat) : Int) := by simp
   rw [this]; omega
  have hwr : IntKind.i64.wrap (m : Int) = m := wrap_i64 AA
  have hzz : (Builtin.zeroCells zv.cells (grownCap w (n + m) cap e - (n + m))) = (DW z (grownCap w (n + m) cap e - (n + m))).toArray := by
   apply Array.ext'; rw [PA, hi4]
  have hz2 : (Builtin.zeroCells zv.cells m) = (DW z m).toArray := by
   apply Array.ext'; rw [PA, hi4]
  have hs' : i.size ≠ 0 := by omega
  have hms2 : ¬ (m * i.size = 0) := by rw [hi1]; exact hms
  have hng : ¬ ((m : Int) < 0) := by omega
  simp [Builtin.append_, run_underlying h.out, run_underlying hi.out, asInt, asIntOf, hwr, hng, hms2, Go.sizeOf, typeInfo, zeroValue, hi', hi3, Builtin.lenOf, hne, hms, hs', h63', h48', h48'', Question.forced, hcap]
  simp only [hi1, hfo, Result.andThen_ok]
  simp only [grownCap] at hzz
  simp [newRow, grownCap, hzz, hz2]
 ·refine ⟨by rw [List.length_append, hcs, hzl, Nat.add_mul], hcapge, hcaple, .inr ⟨w.heap.size, [], DW z (grownCap w (n + m) cap e - (n + m)), rfl, ?_, by simpa using hx⟩⟩
  show (grownCap w (n + m) cap e - (n + m)) * s ≤ _
  rw [hzl]; exact Nat.le_refl _
theorem dS {t u e : TypeId} {s bb : Nat} {z : List Value} [h : E6 P t e] [hs : CX P e s bb z] {x y : Operand} {b off n cap m capB : Nat} {B : Option Addr} {et : TypeId} {cs news : List Value} {r : List AQ}
  (hx : BQ env x = some (.slice (some ⟨b, off, none⟩) n cap)) (hy : BQ env y = some (.slice B m capB)) [hp : FR l b et cs r] (hsrc : BB D w0 l B news) (hm : news.length = n * s) (hmn : n ≤ m) (ho : off + news.length ≤ cs.length) (h1 : ∀ v ∈ news, v.oneCell' = true) :
  FA P D w0 env l ⟨dst, .call ⟨.builtin .copy, #[x, y], #[t, u]⟩, ty, pos, after, g⟩ (fun _ : Unit => .int .i64 n) (fun _ => AI b et (FH cs off news) :: r) := .mk fun n' a w E H => by
 have H' := H.AK (AD.perm hp.out)
 have hf := iK (P := P) (capB := capB) hm hmn hsrc.CU (fun k => hsrc.cells k w H)
 have hst := OM (P := P) H' off news ho h1
 refine ⟨(), w.setCells b off news, .inl ?_, AH.setCells news off H'⟩
 have hmin : Nat.min m n = n := Nat.min_eq_right hmn
 simp [execOp, resolve, invoke, builtin, E.eval hx, E.eval hy, Builtin.copy_, run_underlying h.out, Builtin.lenOf, hmin, run_sizeOf (P := P) (t := e), hf, hst, goInt]
theorem iE (c : Prop) [Decidable c] (A : Option Addr) (s : Nat) : (if c then A else A.map (·.add (0 * s))) = A := by
 split
 ·rfl
 ·cases A with
  | none => rfl
  | some a => simp [Addr.add]
theorem QD {t e : TypeId} {s bb : Nat} {z : List Value} [h : E6 P t e] [hs : CX P e s bb z] {x : Operand} {ol oh : Option Operand} {A : Option Addr} {n cap : Nat} (R : Value) (hx : BQ env x = some (.slice A n cap)) (lo hi : Nat)
  (hl : (ol = none ∧ lo = 0) ∨ ∃ o k, ol = some o ∧ BQ env o = some (.int k lo)) (hh : (oh = none ∧ hi = n) ∨ ∃ o k, oh = some o ∧ BQ env o = some (.int k hi)) (h1 : lo ≤ hi) (h2 : hi ≤ cap) (hR : Value.slice (if cap = lo then A else A.map (·.add (lo * s))) (hi - lo) (cap - lo) = R) :
  DI P D w0 env l ⟨dst, .slice t x ol oh none, ty, pos, after, g⟩ R := hR ▸ FE hx lo hi hl hh h1 h2
theorem J9 {t e : TypeId} {s bb : Nat} {z : List Value} [h : E6 P t e] [hs : CX P e s bb z] {x o : Operand} {A : Option Addr} {n cap : Nat} (hx : BQ env x = some (.slice A n cap)) (hi : Nat) {k : IntKind} (ho : BQ env o = some (.int k hi)) (h2 : hi ≤ cap) :
  DI P D w0 env l ⟨dst, .slice t x none (some o) none, ty, pos, after, g⟩ (.slice A hi cap) := QD _ hx 0 hi (.inl ⟨rfl, rfl⟩) (.inr ⟨_, _, rfl, ho⟩) (Nat.zero_le _) h2 (by rw [iE]; rfl)
theorem GZ {t e : TypeId} {s bb : Nat} {z : List Value} [h : E6 P t e] [hs : CX P e s bb z] {x o : Operand} {b off n cap : Nat} (hx : BQ env x = some (.slice (some ⟨b, off, none⟩) n cap)) (lo : Nat) {k : IntKind} (ho : BQ env o = some (.int k lo)) (h1 : lo ≤ n) (h2 : n ≤ cap) (h3 : lo < cap) :
  DI P D w0 env l ⟨dst, .slice t x (some o) none none, ty, pos, after, g⟩ (.slice (some ⟨b, off + lo * s, none⟩) (n - lo) (cap - lo)) := QD _ hx lo n (.inr ⟨_, _, rfl, ho⟩) (.inl ⟨rfl, rfl⟩) h1 h2 (by rw [if_neg AA]; simp [L5])
theorem ZF {t e : TypeId} {s bb : Nat} {z : List Value} [h : E6 P t e] [hs : CX P e s bb z] {x y : Operand} {A B : Option Addr} {n cap capB : Nat} (hx : BQ env x = some (.slice A n cap)) (hy : BQ env y = some (.slice B 0 capB)) (hn : n ≤ cap) :
  DI P D w0 env l ⟨dst, .call ⟨.builtin .append, #[x, y], #[t, t]⟩, ty, pos, after, g⟩ (.slice A n cap) := .mk fun n' a w E H => by
 have hf := TB (P := P) (B := B) (news := []) (m := 0) (s := s) (capB := capB) (w := w) (by simp) (fun k => absurd rfl k) (fun k => absurd rfl k)
 cases A with
 | none => simp [execOp, resolve, invoke, builtin, E.eval hx, E.eval hy, Builtin.append_, run_underlying h.out, run_sizeOf (P := P) (t := e), Builtin.lenOf, hf, hn]
 | some b => simp [execOp, resolve, invoke, builtin, E.eval hx, E.eval hy, Builtin.append_, run_underlying h.out, run_sizeOf (P := P) (t := e), Builtin.lenOf, hf, hn, storeCells]
theorem UG {t e : TypeId} {s bb : Nat} {z : List Value} [h : E6 P t e] [hs : CX P e s bb z] {x : Operand} {b off n cap : Nat} {et : TypeId} {cs : List Value} {r : List AQ}
  (hx : BQ env x = some (.slice (some ⟨b, off, none⟩) n cap)) [hp : FR l b et cs r] (h0 : 0 < n) (ho : off + n * s ≤ cs.length) (h1 : ∀ v ∈ z, v.oneCell' = true) :
  FA P D w0 env l ⟨dst, .call ⟨.builtin .clear, #[x], #[t]⟩, ty, pos, after, g⟩ (fun _ : Unit => .tuple #[]) (fun _ => AI b et (FH cs off (DW z n)) :: r) := .mk fun n' a w E H => by
 have H' := H.AK (AD.perm hp.out)
 have hz := hs.len
 obtain ⟨v, hz1, hz2⟩ := PR (P := P) (t := e) w
 have hone : ∀ v ∈ DW z n, v.oneCell' = true := fun v hv => by
  unfold DW at hv
  obtain ⟨l, hl, hv⟩ := List.mem_flatten.1 hv
  rw [List.eq_of_mem_replicate hl] at hv
  exact h1 v hv
 have hst := OM (P := P) H' off (DW z n) (by rw [MH, hz]; exact ho) hone
 refine ⟨(), w.setCells b off (DW z n), .inl ?_, AH.setCells _ off H'⟩
 have hzz : (Builtin.zeroCells v.cells n).toList = DW z n := by rw [PA, hz2]
 obtain ⟨k, rfl⟩ : ∃ k, n = k + 1 := ⟨n - 1, by omega⟩
 simp [execOp, resolve, invoke, builtin, E.eval hx, Builtin.clear_, run_underlying h.out, hz1, hzz, hst]
theorem bK {t e : TypeId} [h : E6 P t e] {x : Operand} {A : Option Addr} {cap : Nat} (hx : BQ env x = some (.slice A 0 cap)) :
  FA P D w0 env l ⟨dst, .call ⟨.builtin .clear, #[x], #[t]⟩, ty, pos, after, g⟩ (fun _ : Unit => .tuple #[]) (fun _ => l) := .mk fun n' a w E H => by
 refine ⟨(), w, .inl ?_, H⟩
 cases A <;> simp [execOp, resolve, invoke, builtin, E.eval hx, Builtin.clear_, run_underlying h.out]
theorem dN {f : Nat} {args : List Operand} {ats : Array TypeId} {vs : List Value} {v : Value} (hv : KG env args = some vs) (hc : ∀ w, AH D w0 w l → (callFunc f vs.toArray).run P w = .ok (.value v) w) :
  DI P D w0 env l ⟨dst, .call ⟨.value (.func f), args.toArray, ats⟩, ty, pos, after, g⟩ v := .mk fun n' a w E H => by
 simp [execOp, resolve, Deferred.ofValue, Act.eval, invoke, E.O5 hv, hc w H]
end
theorem fG {P : Program} {f : Nat} {fn : Func} {tS tR e : TypeId} (hf : P.funcs[f]? = some fn) (h1 : (fn.name == "runtime.NumGoroutine") = false) (h2 : fn.body.isNone = true) (h3 : Extern.findNext fn = none) (h4 : Extern.find fn = some (Extern.SlicesOverlaps.overlaps #[tS, tS] #[tR])) [ht : E6 P tS e] {s bb : Nat} {z : List Value} [hs : CX P e s bb z]
  {D : Nat → Prop} {w0 w : World} {l r1 r2 : List AQ} {bx b off la ca lb cb : Nat} {tx tb : TypeId} {csx csb : List Value} (H : AH D w0 w l) [p1 : P9 l bx tx csx r1] [p2 : FR r1 b tb csb r2] (hx : 0 < csx.length) (hb : 0 < csb.length) :
  (callFunc f #[.slice (some ⟨bx, 0, none⟩) la ca, .slice (some ⟨b, off, none⟩) lb cb]).run P w = .ok (.value (.bool false)) w := by
 obtain ⟨h, a, hs2⟩ := (H.AK (AD.perm (p1.out.trans (List.Perm.cons _ p2.out)))).own
 obtain ⟨g1, g2, q1, ⟨g3, g4, ⟨fr, q2, _⟩, _, _, s3, _⟩, d, s1, s2⟩ := hs2
 have e1 : w.heap[bx]? = some (.cells csx.toArray tx (0, 0)) := (a _ _ (s1 _ _ q1)).1
 have e2 : w.heap[b]? = some (.cells csb.toArray tb fr) := (a _ _ (s2 _ _ (s3 _ _ q2))).1
 have hne : bx ≠ b := by
  rintro rfl
  rcases d bx with k | k
  ·have q1 : g1 bx = _ := q1
   rw [q1] at k; cases k
  ·rw [s3 _ _ q2] at k; cases k
 rw [run_callFunc_extern hf h1 h2 h3 h4, Lib.run_overlaps_apart w tS tR e ht.out s (fun w => run_sizeOf w) ⟨bx, 0, none⟩ ⟨b, off, none⟩ la ca lb cb hne tx tb csx.length csb.length (by simp [World.shape?, e1]) (by simp [World.shape?, e2]) AA (by simp [World.frozen?, e1]) (by simp [World.frozen?, e1])]
 rfl
theorem NV {α : Type} {f : α → List Value} {sz : Nat} (hf : ∀ x, (f x).length = sz) : ∀ (xs : List α) (i j : Nat) (y : α) (c : Value) (hi : i < xs.length), j < sz → f y = (f xs[i]).set j c → (xs.flatMap f).set (i * sz + j) c = (xs.set i y).flatMap f
 | x :: r, 0, j, y, c, _, hj, h => by
  rw [List.flatMap_cons, List.set_cons_zero, List.flatMap_cons, Nat.zero_mul, Nat.zero_add, List.set_append_left _ _ (by rw [hf]; exact hj), h]; rfl
 | x :: r, i + 1, j, y, c, hi, hj, h => by
  rw [List.flatMap_cons, List.set_cons_succ, List.flatMap_cons, List.set_append_right _ _ VF, hf, show (i + 1) * sz + j - sz = i * sz + j by rw [Nat.add_mul]; omega]
  rw [NV hf r i j y c (by simpa using hi) hj h]
theorem OP {P : Program} {D : Nat → Prop} {w0 : World} {env : BH} {l : List AQ} {dst : Option Tmp} {ty : TypeId} {pos : String} {after : Array Edge} {g : Option (Nat × Bool)} {t e : TypeId} {bb sz n cap off : Nat} {z : List Value} [h : CX P t 1 bb z] {x y : Operand} {A : Option Addr} {cs : List Value} {r : List AQ} {v : Value} (o : Nat) (cs' : List Value) (hx : BQ env x = some (.pointer (some ⟨ab A, off, none⟩))) (hy : BQ env y = some v) (hoff : off = ao A + o) [hp : GC l A e sz n cap cs r] (ho : o < cs.length) (h1 : v.oneCell' = true) (hn : cs.set o v = cs') :
  FA P D w0 env l ⟨dst, .store t x y, ty, pos, after, g⟩ (fun _ : Unit => undef) (fun _ => row A e sz n cap cs' :: r) := kF cs' (hoff ▸ hx) hy ho h1 hn
section
variable {P : Program} {Q : Post} {D : Nat → Prop} {w0 : World} {n : Nat} {env : BH} {l L0 : List AQ} {fuel : Nat} {listed : Array Bool} {rl : List Oper}
theorem IW {ops : Array Oper} {i : Nat} {l' : List AQ} (hE : AD l l') (h : HO P ops Q D w0 n env l' L0 i fuel listed) : HO P ops Q D w0 n env l L0 i fuel listed := .mk fun a w S => h.run a w ⟨S.env, S.own.AK hE⟩
theorem gS {i : Nat} {d f : Nat} {fx : Operand} {fs cs : List Value} {args : List Operand} {ats : Array TypeId} {ty : TypeId} {pos : String} {after : Array Edge} {gd : Option (Nat × Bool)} (hi : I0 rl i = some ⟨some d, .call ⟨.value fx, args.toArray, ats⟩, ty, pos, after, gd⟩) {vs : List Value} {v : Value} {l' : List AQ} (hf : BQ env fx = some (.func (.func f) fs.toArray cs.toArray)) (hcf : ∀ args w, (callFunc f args).run P w = .ok (.enter f args) w)
  (hv : KG env args = some vs) (hc : ∀ w, AH D w0 w l → Calls P f (fs ++ vs ++ cs).toArray w fun e w' => e = .returned v ∧ AH D w0 w' l')
  (k : HA P rl.toArray Q D w0 n ((d, v) :: env) l' L0 fuel (listed.setIfInBounds i true)) (hg : JB rl.toArray env gd = some true := by rfl) (hn : Nat.blt d n = true := by rfl)
  (hE : AD l' L0 := by first | assumption | exact AD.refl _ | exact AD.nil _ | (repeat (first | exact AD.refl _ | exact AD.nil _ | refine AD.pick ?_))) : HO P rl.toArray Q D w0 n env l L0 i fuel listed := .mk fun a w S => by
 unfold wpOp
 simp only [MU hi]
 rw [if_pos (OQ (o := ⟨some d, .call ⟨.value fx, args.toArray, ats⟩, ty, pos, after, gd⟩) hg S.env)]
 left
 unfold Oper.wp
 have hrun : (execOp a.eval ⟨some d, .call ⟨.value fx, args.toArray, ats⟩, ty, pos, after, gd⟩).run P w = .ok (.enter f (fs ++ vs ++ cs).toArray) w := by
  simp [execOp, resolve, Deferred.ofValue, S.env.eval hf, invoke, S.env.O5 hv, hcf]
 rw [hrun, Oper.upon_enter]
 refine (hc w S.own).mono fun e w' ⟨he, H⟩ => ?_
 subst he
 exact ⟨H.AK hE, k.run _ w' ⟨S.env.put hn _, H⟩⟩
end
end CN

namespace Go.Proofs.YtjlolpmmpafjeaaGreat
open CN
theorem mixed : Tryz.prog.follows .mixedOrders = true := by kernel_rfl
end Go.Proofs.YtjlolpmmpafjeaaGreat

set_option linter.unusedVariables false
set_option linter.unusedSimpArgs false
namespace Go.Proofs.YtjlolpmmpafjeaaGreat
open CN
theorem qC (D : Nat → Prop) (w : World) (k n : Int) (hk : DO k) (hn : DO n) (hn2 : n ≤ 4611686018427387903) :
  Calls Tryz.prog 14 #[.int .i64 k, .int .i64 n] w fun e w' => e = .returned (.int .i64 (if n < 1 then 0 else k % n)) ∧ AH D w w' [] := by
 unfold DO at hk hn
 refine BZ (vs := [.int .i64 k, .int .i64 n]) Tryz.func14 rfl _ Tryz.ntmps14 rfl (AH.start D w) ?_
 simp only [BX, Nat.zero_add]
 repeat (first | refine AG ?_ | refine AR ?_ | refine KT ?_ | refine BK ?_ | refine C3 ?_ | refine MB ?_ | refine CF ?_ | refine L1 ?_ | refine LZ ?_ | refine LX ?_ | refine B4 ?_ | refine CE ?_ | refine FO rfl ?_ | refine AS ?_ | refine FG Z0 rfl rfl rfl ?_ | refine AV (B9) rfl rfl rfl (fun _ => ?_) | refine AV (BS rfl rfl rfl) rfl rfl rfl (fun _ => ?_) | refine A6 (DN rfl rfl rfl rfl rfl) rfl rfl ?_ | refine A6 (DT rfl rfl rfl rfl rfl rfl) rfl rfl ?_ | refine EN (on_mark rfl) rfl rfl rfl ?_ | refine AJ rfl rfl ?_ | refine F6 rfl rfl rfl rfl rfl rfl ?_)
 refine BP rfl (fun h => ?_) (fun h => ?_)
 ·repeat (first | refine AG ?_ | refine AR ?_ | refine KT ?_ | refine BK ?_ | refine C3 ?_ | refine MB ?_ | refine CF ?_ | refine L1 ?_ | refine LZ ?_ | refine LX ?_ | refine B4 ?_ | refine CE ?_ | refine FO rfl ?_ | refine AS ?_ | refine FG Z0 rfl rfl rfl ?_ | refine AV (B9) rfl rfl rfl (fun _ => ?_) | refine AV (BS rfl rfl rfl) rfl rfl rfl (fun _ => ?_) | refine A6 (DN rfl rfl rfl rfl rfl) rfl rfl ?_ | refine A6 (DT rfl rfl rfl rfl rfl rfl) rfl rfl ?_ | refine EN (on_mark rfl) rfl rfl rfl ?_ | refine AJ rfl rfl ?_ | refine F6 rfl rfl rfl rfl rfl rfl ?_)
  exact QW (.inr rfl) rfl rfl fun w' H' => ⟨by rw [if_pos h], H'⟩
 ·have h1 : 0 < n := by omega
  have e1 : k.tmod n = if 0 ≤ k then k % n else -((-k) % n) := tmod_eq_if k n
  have b1 := Int.emod_nonneg k (show n ≠ 0 by omega)
  have b2 := Int.emod_lt_of_pos k h1
  have b3 := Int.emod_nonneg (-k) (show n ≠ 0 by omega)
  have b4 := Int.emod_lt_of_pos (-k) h1
  repeat (first | refine AG ?_ | refine AR ?_ | refine KT ?_ | refine BK ?_ | refine C3 ?_ | refine MB ?_ | refine CF ?_ | refine L1 ?_ | refine LZ ?_ | refine LX ?_ | refine B4 ?_ | refine CE ?_ | refine FO rfl ?_ | refine AS ?_ | refine FG Z0 rfl rfl rfl ?_ | refine AV (B9) rfl rfl rfl (fun _ => ?_) | refine AV (BS rfl rfl rfl) rfl rfl rfl (fun _ => ?_) | refine A6 (DN rfl rfl rfl rfl rfl) rfl rfl ?_ | refine A6 (DT rfl rfl rfl rfl rfl rfl) rfl rfl ?_ | refine EN (on_mark rfl) rfl rfl rfl ?_ | refine AJ rfl rfl ?_ | refine F6 rfl rfl rfl rfl rfl rfl ?_)
  refine FG (RE (m := k.tmod n) rfl rfl AA rfl) rfl rfl rfl ?_
  have b5 : -n < k.tmod n ∧ k.tmod n < n := by rw [e1]; split <;> omega
  repeat (first | refine AG ?_ | refine AR ?_ | refine KT ?_ | refine BK ?_ | refine C3 ?_ | refine MB ?_ | refine CF ?_ | refine L1 ?_ | refine LZ ?_ | refine LX ?_ | refine B4 ?_ | refine CE ?_ | refine FO rfl ?_ | refine AS ?_ | refine FG Z0 rfl rfl rfl ?_ | refine AV (B9) rfl rfl rfl (fun _ => ?_) | refine AV (BS rfl rfl rfl) rfl rfl rfl (fun _ => ?_) | refine A6 (DN rfl rfl rfl rfl rfl) rfl rfl ?_ | refine A6 (DT rfl rfl rfl rfl rfl rfl) rfl rfl ?_ | refine EN (on_mark rfl) rfl rfl rfl ?_ | refine AJ rfl rfl ?_ | refine F6 rfl rfl rfl rfl rfl rfl ?_)
  refine FG (RE (m := k % n) rfl rfl AA ?_) rfl rfl rfl ?_
  ·have hx : (k.tmod n + n).tmod n = (k.tmod n + n) % n := Int.tmod_eq_emod_of_nonneg AA
   rw [hx, Int.add_emod_right]
   rw [Int.tmod_eq_emod]
   split
   ·simp
   ·rw [Int.sub_emod, Int.emod_emod]
    have : ((n.natAbs : Int)) % n = 0 := by rw [Int.natAbs_of_nonneg AA]; exact Int.emod_self
    rw [this]; simp
  repeat (first | refine AG ?_ | refine AR ?_ | refine KT ?_ | refine BK ?_ | refine C3 ?_ | refine MB ?_ | refine CF ?_ | refine L1 ?_ | refine LZ ?_ | refine LX ?_ | refine B4 ?_ | refine CE ?_ | refine FO rfl ?_ | refine AS ?_ | refine FG Z0 rfl rfl rfl ?_ | refine AV (B9) rfl rfl rfl (fun _ => ?_) | refine AV (BS rfl rfl rfl) rfl rfl rfl (fun _ => ?_) | refine A6 (DN rfl rfl rfl rfl rfl) rfl rfl ?_ | refine A6 (DT rfl rfl rfl rfl rfl rfl) rfl rfl ?_ | refine EN (on_mark rfl) rfl rfl rfl ?_ | refine AJ rfl rfl ?_ | refine F6 rfl rfl rfl rfl rfl rfl ?_)
  exact QW (.inr rfl) rfl rfl fun w' H' => ⟨by rw [if_neg h], H'⟩
end Go.Proofs.YtjlolpmmpafjeaaGreat

set_option linter.unusedVariables false
set_option linter.unusedSimpArgs false
namespace Go.Proofs.YtjlolpmmpafjeaaGreat
open CN
theorem ZP (D : Nat → Prop) (w : World) (v : Value) (xs : List UInt8) (hl : xs.length ≤ 1000000) (HA : Old D w (AX.rep xs [v])) :
  Calls Tryz.prog 81 #[v] w fun e w' => ∃ q : Option Addr × Nat, e = .returned (.slice q.1 xs.length q.2) ∧ AH D w w' [row q.1 5 1 xs.length q.2 (xs.map AU)] := by
 obtain ⟨A, cap, rfl, hc1, hc2, HS⟩ := HA.IG
 refine BZ (vs := [.slice A xs.length cap]) Tryz.func81 rfl _ Tryz.ntmps81 rfl (AH.start D w) ?_
 simp only [BX, Nat.zero_add]
 cases A with
 | none =>
  have hx : xs = [] := by
   cases xs with
   | nil => rfl
   | cons a r => have := HS.CU (by simp); cases this
  subst hx
  repeat (first | refine AG ?_ | refine AR ?_ | refine KT ?_ | refine BK ?_ | refine C3 ?_ | refine MB ?_ | refine CF ?_ | refine L1 ?_ | refine LZ ?_ | refine LX ?_ | refine B4 ?_ | refine CE ?_ | refine FO rfl ?_ | refine AS ?_ | refine FG Z0 rfl rfl rfl ?_ | refine AV (B9) rfl rfl rfl (fun _ => ?_) | refine AV (BS rfl rfl rfl) rfl rfl rfl (fun _ => ?_) | refine A6 (DN rfl rfl rfl rfl rfl) rfl rfl ?_ | refine A6 (DT rfl rfl rfl rfl rfl rfl) rfl rfl ?_ | refine EN (on_mark rfl) rfl rfl rfl ?_ | refine AJ rfl rfl ?_ | refine F6 rfl rfl rfl rfl rfl rfl ?_)
  refine FG (SK rfl rfl) rfl rfl rfl ?_
  repeat (first | refine AG ?_ | refine AR ?_ | refine KT ?_ | refine BK ?_ | refine C3 ?_ | refine MB ?_ | refine CF ?_ | refine L1 ?_ | refine LZ ?_ | refine LX ?_ | refine B4 ?_ | refine CE ?_ | refine FO rfl ?_ | refine AS ?_ | refine FG Z0 rfl rfl rfl ?_ | refine AV (B9) rfl rfl rfl (fun _ => ?_) | refine AV (BS rfl rfl rfl) rfl rfl rfl (fun _ => ?_) | refine A6 (DN rfl rfl rfl rfl rfl) rfl rfl ?_ | refine A6 (DT rfl rfl rfl rfl rfl rfl) rfl rfl ?_ | refine EN (on_mark rfl) rfl rfl rfl ?_ | refine AJ rfl rfl ?_ | refine F6 rfl rfl rfl rfl rfl rfl ?_)
  refine DD rfl ?_
  repeat (first | refine AG ?_ | refine AR ?_ | refine KT ?_ | refine BK ?_ | refine C3 ?_ | refine MB ?_ | refine CF ?_ | refine L1 ?_ | refine LZ ?_ | refine LX ?_ | refine B4 ?_ | refine CE ?_ | refine FO rfl ?_ | refine AS ?_ | refine FG Z0 rfl rfl rfl ?_ | refine AV (B9) rfl rfl rfl (fun _ => ?_) | refine AV (BS rfl rfl rfl) rfl rfl rfl (fun _ => ?_) | refine A6 (DN rfl rfl rfl rfl rfl) rfl rfl ?_ | refine A6 (DT rfl rfl rfl rfl rfl rfl) rfl rfl ?_ | refine EN (on_mark rfl) rfl rfl rfl ?_ | refine AJ rfl rfl ?_ | refine F6 rfl rfl rfl rfl rfl rfl ?_)
  exact QW (.inr rfl) rfl rfl fun w' H' => ⟨(none, 0), rfl, H'.AK (AD.EB _ _)⟩
 | some A =>
  repeat (first | refine AG ?_ | refine AR ?_ | refine KT ?_ | refine BK ?_ | refine C3 ?_ | refine MB ?_ | refine CF ?_ | refine L1 ?_ | refine LZ ?_ | refine LX ?_ | refine B4 ?_ | refine CE ?_ | refine FO rfl ?_ | refine AS ?_ | refine FG Z0 rfl rfl rfl ?_ | refine AV (B9) rfl rfl rfl (fun _ => ?_) | refine AV (BS rfl rfl rfl) rfl rfl rfl (fun _ => ?_) | refine A6 (DN rfl rfl rfl rfl rfl) rfl rfl ?_ | refine A6 (DT rfl rfl rfl rfl rfl rfl) rfl rfl ?_ | refine EN (on_mark rfl) rfl rfl rfl ?_ | refine AJ rfl rfl ?_ | refine F6 rfl rfl rfl rfl rfl rfl ?_)
  refine FG (SK rfl rfl) rfl rfl rfl ?_
  repeat (first | refine AG ?_ | refine AR ?_ | refine KT ?_ | refine BK ?_ | refine C3 ?_ | refine MB ?_ | refine CF ?_ | refine L1 ?_ | refine LZ ?_ | refine LX ?_ | refine B4 ?_ | refine CE ?_ | refine FO rfl ?_ | refine AS ?_ | refine FG Z0 rfl rfl rfl ?_ | refine AV (B9) rfl rfl rfl (fun _ => ?_) | refine AV (BS rfl rfl rfl) rfl rfl rfl (fun _ => ?_) | refine A6 (DN rfl rfl rfl rfl rfl) rfl rfl ?_ | refine A6 (DT rfl rfl rfl rfl rfl rfl) rfl rfl ?_ | refine EN (on_mark rfl) rfl rfl rfl ?_ | refine AJ rfl rfl ?_ | refine F6 rfl rfl rfl rfl rfl rfl ?_)
  refine EU rfl ?_
  repeat (first | refine AG ?_ | refine AR ?_ | refine KT ?_ | refine BK ?_ | refine C3 ?_ | refine MB ?_ | refine CF ?_ | refine L1 ?_ | refine LZ ?_ | refine LX ?_ | refine B4 ?_ | refine CE ?_ | refine FO rfl ?_ | refine AS ?_ | refine FG Z0 rfl rfl rfl ?_ | refine AV (B9) rfl rfl rfl (fun _ => ?_) | refine AV (BS rfl rfl rfl) rfl rfl rfl (fun _ => ?_) | refine A6 (DN rfl rfl rfl rfl rfl) rfl rfl ?_ | refine A6 (DT rfl rfl rfl rfl rfl rfl) rfl rfl ?_ | refine EN (on_mark rfl) rfl rfl rfl ?_ | refine AJ rfl rfl ?_ | refine F6 rfl rfl rfl rfl rfl rfl ?_)
  refine HL.AK (AD.FQ 1 0 rfl AF) ?_
  refine AV (BT (news := xs.map AU) rfl rfl (BB.old HS) (by simp) (EL xs) AF AA) rfl rfl rfl (fun p => ?_)
  simp only [Nat.zero_add, List.nil_append]
  repeat (first | refine AG ?_ | refine AR ?_ | refine KT ?_ | refine BK ?_ | refine C3 ?_ | refine MB ?_ | refine CF ?_ | refine L1 ?_ | refine LZ ?_ | refine LX ?_ | refine B4 ?_ | refine CE ?_ | refine FO rfl ?_ | refine AS ?_ | refine FG Z0 rfl rfl rfl ?_ | refine AV (B9) rfl rfl rfl (fun _ => ?_) | refine AV (BS rfl rfl rfl) rfl rfl rfl (fun _ => ?_) | refine A6 (DN rfl rfl rfl rfl rfl) rfl rfl ?_ | refine A6 (DT rfl rfl rfl rfl rfl rfl) rfl rfl ?_ | refine EN (on_mark rfl) rfl rfl rfl ?_ | refine AJ rfl rfl ?_ | refine F6 rfl rfl rfl rfl rfl rfl ?_)
  exact QW (.inr rfl) rfl rfl fun w' H' => ⟨p, rfl, H'⟩
end Go.Proofs.YtjlolpmmpafjeaaGreat
namespace CN
open Go
section
variable {P : Program} {ops : Array Oper} {Q : Post} {D : Nat → Prop} {w0 : World} {n d : Nat} {env : BH} {l : List AQ} {r : List Oper} {ty : TypeId} {pos : String} {after : Array Edge}
theorem zm {x : Operand} {v : Value} (hx : BQ env x = some v) (k : HL P ops Q D w0 n ((d, v) :: env) l r) (hn : Nat.blt d n = true := by rfl) : HL P ops Q D w0 n env l (⟨some d, .move x, ty, pos, after, none⟩ :: r) := AZ (AO hx) rfl k rfl hn
theorem zs {x : Operand} {v : Value} (hx : BQ env x = some v) (k : HL P ops Q D w0 n ((d, v) :: env) l r) (hn : Nat.blt d n = true := by rfl) : HL P ops Q D w0 n env l (⟨some d, .assign x, ty, pos, after, none⟩ :: r) := AZ (DH hx) rfl k rfl hn
theorem zx {x : Operand} {i : Nat} {vs : Array Value} {v : Value} (hx : BQ env x = some (.tuple vs)) (hv : vs[i]? = some v) (k : HL P ops Q D w0 n ((d, v) :: env) l r) (hn : Nat.blt d n = true := by rfl) : HL P ops Q D w0 n env l (⟨some d, .extract x i, ty, pos, after, none⟩ :: r) := AZ (I9 hx hv) rfl k rfl hn
theorem zf {s f o fz : Nat} {ft : TypeId} [h : C2 P s f o ft fz] {x : Operand} {b off : Nat} (hx : BQ env x = some (.pointer (some ⟨b, off, none⟩))) (k : HL P ops Q D w0 n ((d, .pointer (some ⟨b, off + o, none⟩)) :: env) l r) (hn : Nat.blt d n = true := by rfl) : HL P ops Q D w0 n env l (⟨some d, .fieldAddr s x f, ty, pos, after, none⟩ :: r) := AZ (AP hx) rfl k rfl hn
theorem zl {t : TypeId} [h : HU P t] {x : Operand} {b off : Nat} {v : Value} {tb : TypeId} {cs : List Value} {rr : List AQ} (hx : BQ env x = some (.pointer (some ⟨b, off, none⟩))) [hb : FR l b tb cs rr] (hv : cs[off]? = some v) (k : HL P ops Q D w0 n ((d, v) :: env) l r) (hn : Nat.blt d n = true := by rfl) : HL P ops Q D w0 n env l (⟨some d, .load t x, ty, pos, after, none⟩ :: r) := AZ (GB hx (EH.AI hv)) rfl k rfl hn
theorem zo {op : Op} {j t : Nat} {want b : Bool} (hj : LO ops j = some t) (hv : BH.get env t = some (.bool b)) (k : HL P ops Q D w0 n ((d, undef) :: env) l r) (hne : (b == want) = false := by rfl) (hn : Nat.blt d n = true := by rfl) : HL P ops Q D w0 n env l (⟨some d, op, ty, pos, after, some (j, want)⟩ :: r) := F6 rfl hj hv hne rfl hn k
theorem zv {op : Op} {v : Value} (h : DI P D w0 env l ⟨some d, op, ty, pos, after, none⟩ v) (k : HL P ops Q D w0 n ((d, v) :: env) l r) (hn : Nat.blt d n = true := by rfl) : HL P ops Q D w0 n env l (⟨some d, op, ty, pos, after, none⟩ :: r) := AZ h rfl k rfl hn
end
section
variable {P : Program} {D : Nat → Prop} {w0 : World} {env : BH} {l : List AQ} {dst : Option Tmp} {ty : TypeId} {pos : String} {after : Array Edge} {g : Option (Nat × Bool)}
theorem zw {t : TypeId} [h : HU P t] {x : Operand} {b off : Nat} {v : Value} {tb : TypeId} {cs : List Value} {rr : List AQ} (hx : BQ env x = some (.pointer (some ⟨b, off, none⟩))) [hb : FR l b tb cs rr] (hv : cs[off]? = some v) : DI P D w0 env l ⟨dst, .load t x, ty, pos, after, g⟩ v := GB hx (EH.AI hv)
end
set_option linter.defProp false
def zt := @KT
def zr := @L1
def ze := @LZ
def zb := @LX
def zq := @MB
def zy := @QW
theorem zz {P : Program} {D : Nat → Prop} {w0 : World} {n : Nat} {env : BH} {l : List AQ} {fn : Func} {R : Ending → World → Prop} {t : Nat} (hr : fn.results = #[.tmp t]) {v : Value} (hv : BH.get env t = some v) (h : ∀ w, AH D w0 w l → R (.returned v) w) : HX (bodyPost P fn R) .ret D w0 n env l := QW (.inr rfl) hr hv h
theorem zp (A : AQ) {P : Program} {f : Nat} {args : Array Value} {D : Nat → Prop} {w0 w : World} {l r post : List AQ} {v : Value} [hp : GP l A r] (hc : ∀ D', (∀ A, Old D w0 A → Old D' w A) → (∀ B : AQ, (∀ h, DS r h → (∀ A, Old D w0 A → ∃ h1, A h1 ∧ ED h1 h) → B h) → Old D' w B) → AH D' w w [A] → Calls P f args w fun e w' => e = .returned v ∧ AH D' w w' post) (H : AH D w0 w l) : Calls P f args w fun e w' => e = .returned v ∧ AH D w0 w' (post ++ r) := AH.sV A H hc
theorem EZ (A : AQ) {P : Program} {f : Nat} {args : Array Value} {D : Nat → Prop} {w0 w : World} {l r : List AQ} {σ : Type} {post : σ → List AQ} {v : σ → Value} [hp : GP l A r] (hc : ∀ D', (∀ A, Old D w0 A → Old D' w A) → (∀ B : AQ, (∀ h, DS r h → (∀ A, Old D w0 A → ∃ h1, A h1 ∧ ED h1 h) → B h) → Old D' w B) → AH D' w w [A] → Calls P f args w fun e w' => ∃ s, e = .returned (v s) ∧ AH D' w w' (post s)) (H : AH D w0 w l) : Calls P f args w fun e w' => ∃ s, e = .returned (v s) ∧ AH D w0 w' (post s ++ r) := AH.rW A H hc
theorem zu {P : Program} {f : Nat} {args : Array Value} {D : Nat → Prop} {w0 w : World} {l : List AQ} {σ : Type} {post : σ → List AQ} {v : σ → Value} (hc : ∀ D', (∀ A, Old D w0 A → Old D' w A) → (∀ B : AQ, (∀ h, DS l h → (∀ A, Old D w0 A → ∃ h1, A h1 ∧ ED h1 h) → B h) → Old D' w B) → AH D' w w [] → Calls P f args w fun e w' => ∃ s, e = .returned (v s) ∧ AH D' w w' (post s)) (H : AH D w0 w l) : Calls P f args w fun e w' => ∃ s, e = .returned (v s) ∧ AH D w0 w' (post s ++ l) := AH.sQ H hc
theorem D6 {P : Program} {f : Nat} {args : Array Value} {D : Nat → Prop} {w0 w : World} {l : List AQ} {v : Value} (hc : ∀ D', (∀ A, Old D w0 A → Old D' w A) → (∀ B : AQ, (∀ h, DS l h → (∀ A, Old D w0 A → ∃ h1, A h1 ∧ ED h1 h) → B h) → Old D' w B) → AH D' w w [] → Calls P f args w fun e w' => e = .returned v ∧ AH D' w w' []) (H : AH D w0 w l) : Calls P f args w fun e w' => e = .returned v ∧ AH D w0 w' l := AH.tC H hc
end CN
