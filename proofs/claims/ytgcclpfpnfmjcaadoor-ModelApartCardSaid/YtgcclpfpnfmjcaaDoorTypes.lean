import Derived.Test.YtgcclpfpnfmjcaaDoorEq
import Derived.Test.YtgcclpfpnfmjcaaDoorProg
namespace Go.Proofs.YtgcclpfpnfmjcaaDoor
open Go
instance : Inf Tryd.prog 0 1 0 (.tuple #[]) := ⟨by kernel_rfl⟩
instance : Sca Tryd.prog 1 := ⟨_, Tryd.underlying1, rfl⟩
instance : Inf Tryd.prog 1 1 8 (.nilFunc) := ⟨by kernel_rfl⟩
theorem und2 : Tryd.prog.underlying 2 = some (.int .i64) := by kernel_rfl
instance : Und Tryd.prog 2 (.int .i64) := ⟨und2⟩
instance : Sca Tryd.prog 2 := ⟨_, und2, rfl⟩
instance : Inf Tryd.prog 2 1 8 (.int .i64 0) := ⟨by kernel_rfl⟩
theorem und3 : Tryd.prog.underlying 3 = some (.int .i64) := by kernel_rfl
instance : Und Tryd.prog 3 (.int .i64) := ⟨und3⟩
instance : Sca Tryd.prog 3 := ⟨_, und3, rfl⟩
instance : Inf Tryd.prog 3 1 8 (.int .i64 0) := ⟨by kernel_rfl⟩
theorem und4 : Tryd.prog.underlying 4 = some (.bool) := by kernel_rfl
instance : Und Tryd.prog 4 (.bool) := ⟨und4⟩
instance : Sca Tryd.prog 4 := ⟨_, und4, rfl⟩
instance : Inf Tryd.prog 4 1 1 (.bool false) := ⟨by kernel_rfl⟩
theorem und5 : Tryd.prog.underlying 5 = some (.int .u8) := by kernel_rfl
instance : Und Tryd.prog 5 (.int .u8) := ⟨und5⟩
instance : Sca Tryd.prog 5 := ⟨_, und5, rfl⟩
instance : Inf Tryd.prog 5 1 1 (.int .u8 0) := ⟨by kernel_rfl⟩
theorem und6 : Tryd.prog.underlying 6 = some (.int .u8) := by kernel_rfl
instance : Und Tryd.prog 6 (.int .u8) := ⟨und6⟩
instance : Sca Tryd.prog 6 := ⟨_, und6, rfl⟩
instance : Inf Tryd.prog 6 1 1 (.int .u8 0) := ⟨by kernel_rfl⟩
instance : Agg Tryd.prog 8 := ⟨_, Tryd.underlying8, rfl⟩
instance : Stru Tryd.prog 8 [(0, 1), (1, 1), (2, 1), (3, 1)] := ⟨_, Tryd.underlying8, by kernel_rfl⟩
instance : Fld Tryd.prog 8 0 0 2 := ⟨_, _, Tryd.underlying8, rfl, rfl, rfl⟩
instance : Fld Tryd.prog 8 1 1 3 := ⟨_, _, Tryd.underlying8, rfl, rfl, rfl⟩
instance : Fld Tryd.prog 8 2 2 4 := ⟨_, _, Tryd.underlying8, rfl, rfl, rfl⟩
instance : Fld Tryd.prog 8 3 3 6 := ⟨_, _, Tryd.underlying8, rfl, rfl, rfl⟩
instance : Inf Tryd.prog 8 4 24 (.agg #[.int .i64 0, .int .i64 0, .bool false, .int .u8 0]) := ⟨by kernel_rfl⟩
theorem und9 : Tryd.prog.underlying 9 = some (.string) := by kernel_rfl
instance : Und Tryd.prog 9 (.string) := ⟨und9⟩
instance : Sca Tryd.prog 9 := ⟨_, und9, rfl⟩
instance : Inf Tryd.prog 9 1 16 (.string ByteArray.empty) := ⟨by kernel_rfl⟩
theorem und10 : Tryd.prog.underlying 10 = some (.string) := by kernel_rfl
instance : Und Tryd.prog 10 (.string) := ⟨und10⟩
instance : Sca Tryd.prog 10 := ⟨_, und10, rfl⟩
instance : Inf Tryd.prog 10 1 16 (.string ByteArray.empty) := ⟨by kernel_rfl⟩
theorem und11 : Tryd.prog.underlying 11 = some (.string) := by kernel_rfl
instance : Und Tryd.prog 11 (.string) := ⟨und11⟩
instance : Sca Tryd.prog 11 := ⟨_, und11, rfl⟩
instance : Inf Tryd.prog 11 1 16 (.string ByteArray.empty) := ⟨by kernel_rfl⟩
theorem und12 : Tryd.prog.underlying 12 = some (.int .u64) := by kernel_rfl
instance : Und Tryd.prog 12 (.int .u64) := ⟨und12⟩
instance : Sca Tryd.prog 12 := ⟨_, und12, rfl⟩
instance : Inf Tryd.prog 12 1 8 (.int .u64 0) := ⟨by kernel_rfl⟩
instance : Agg Tryd.prog 14 := ⟨_, Tryd.underlying14, rfl⟩
instance : Stru Tryd.prog 14 [(0, 1), (1, 1)] := ⟨_, Tryd.underlying14, by kernel_rfl⟩
instance : Fld Tryd.prog 14 0 0 9 := ⟨_, _, Tryd.underlying14, rfl, rfl, rfl⟩
instance : Fld Tryd.prog 14 1 1 12 := ⟨_, _, Tryd.underlying14, rfl, rfl, rfl⟩
instance : Inf Tryd.prog 14 2 24 (.agg #[.string ByteArray.empty, .int .u64 0]) := ⟨by kernel_rfl⟩
theorem und15 : Tryd.prog.underlying 15 = some (.pointer 133) := by kernel_rfl
instance : Und Tryd.prog 15 (.pointer 133) := ⟨und15⟩
instance : Sca Tryd.prog 15 := ⟨_, und15, rfl⟩
instance : Inf Tryd.prog 15 1 8 (.pointer none) := ⟨by kernel_rfl⟩
theorem und16 : Tryd.prog.underlying 16 = some (.pointer 136) := by kernel_rfl
instance : Und Tryd.prog 16 (.pointer 136) := ⟨und16⟩
instance : Sca Tryd.prog 16 := ⟨_, und16, rfl⟩
instance : Inf Tryd.prog 16 1 8 (.pointer none) := ⟨by kernel_rfl⟩
theorem und17 : Tryd.prog.underlying 17 = some (.pointer 145) := by kernel_rfl
instance : Und Tryd.prog 17 (.pointer 145) := ⟨und17⟩
instance : Sca Tryd.prog 17 := ⟨_, und17, rfl⟩
instance : Inf Tryd.prog 17 1 8 (.pointer none) := ⟨by kernel_rfl⟩
instance : Agg Tryd.prog 19 := ⟨_, Tryd.underlying19, rfl⟩
instance : Stru Tryd.prog 19 [(0, 1)] := ⟨_, Tryd.underlying19, by kernel_rfl⟩
instance : Fld Tryd.prog 19 0 0 17 := ⟨_, _, Tryd.underlying19, rfl, rfl, rfl⟩
instance : Inf Tryd.prog 19 1 8 (.agg #[.pointer none]) := ⟨by kernel_rfl⟩
theorem und21 : Tryd.prog.underlying 21 = some (.int .i32) := by kernel_rfl
instance : Und Tryd.prog 21 (.int .i32) := ⟨und21⟩
instance : Sca Tryd.prog 21 := ⟨_, und21, rfl⟩
instance : Inf Tryd.prog 21 1 4 (.int .i32 0) := ⟨by kernel_rfl⟩
theorem und22 : Tryd.prog.underlying 22 = some (.slice 37) := by kernel_rfl
instance : Und Tryd.prog 22 (.slice 37) := ⟨und22⟩
instance : Sca Tryd.prog 22 := ⟨_, und22, rfl⟩
instance : Inf Tryd.prog 22 1 24 (.slice none 0 0) := ⟨by kernel_rfl⟩
theorem und23 : Tryd.prog.underlying 23 = some (.slice 39) := by kernel_rfl
instance : Und Tryd.prog 23 (.slice 39) := ⟨und23⟩
instance : Sca Tryd.prog 23 := ⟨_, und23, rfl⟩
instance : Inf Tryd.prog 23 1 24 (.slice none 0 0) := ⟨by kernel_rfl⟩
theorem und25 : Tryd.prog.underlying 25 = some (.slice 51) := by kernel_rfl
instance : Und Tryd.prog 25 (.slice 51) := ⟨und25⟩
instance : Sca Tryd.prog 25 := ⟨_, und25, rfl⟩
instance : Inf Tryd.prog 25 1 24 (.slice none 0 0) := ⟨by kernel_rfl⟩
theorem und30 : Tryd.prog.underlying 30 = some (.slice 49) := by kernel_rfl
instance : Und Tryd.prog 30 (.slice 49) := ⟨und30⟩
instance : Sca Tryd.prog 30 := ⟨_, und30, rfl⟩
instance : Inf Tryd.prog 30 1 24 (.slice none 0 0) := ⟨by kernel_rfl⟩
instance : Agg Tryd.prog 37 := ⟨_, Tryd.underlying37, rfl⟩
instance : Stru Tryd.prog 37 [(0, 1), (1, 1), (2, 1), (3, 1), (4, 1)] := ⟨_, Tryd.underlying37, by kernel_rfl⟩
instance : Flds Tryd.prog 37 [(3, 0), (3, 1), (9, 2), (9, 3), (3, 4)] := ⟨⟨by kernel_rfl, by kernel_rfl, by kernel_rfl, by kernel_rfl⟩⟩
instance : Fld Tryd.prog 37 0 0 3 := ⟨_, _, Tryd.underlying37, rfl, rfl, rfl⟩
instance : Fld Tryd.prog 37 1 1 3 := ⟨_, _, Tryd.underlying37, rfl, rfl, rfl⟩
instance : Fld Tryd.prog 37 2 2 9 := ⟨_, _, Tryd.underlying37, rfl, rfl, rfl⟩
instance : Fld Tryd.prog 37 3 3 9 := ⟨_, _, Tryd.underlying37, rfl, rfl, rfl⟩
instance : Fld Tryd.prog 37 4 4 3 := ⟨_, _, Tryd.underlying37, rfl, rfl, rfl⟩
instance : Inf Tryd.prog 37 5 56 (.agg #[.int .i64 0, .int .i64 0, .string ByteArray.empty, .string ByteArray.empty, .int .i64 0]) := ⟨by kernel_rfl⟩
instance : Agg Tryd.prog 39 := ⟨_, Tryd.underlying39, rfl⟩
instance : Stru Tryd.prog 39 [(0, 1), (1, 1), (2, 5)] := ⟨_, Tryd.underlying39, by kernel_rfl⟩
instance : Flds Tryd.prog 39 [(3, 0), (3, 1), (37, 2)] := ⟨⟨by kernel_rfl, by kernel_rfl, by kernel_rfl, by kernel_rfl⟩⟩
instance : Fld Tryd.prog 39 0 0 3 := ⟨_, _, Tryd.underlying39, rfl, rfl, rfl⟩
instance : Fld Tryd.prog 39 1 1 3 := ⟨_, _, Tryd.underlying39, rfl, rfl, rfl⟩
instance : Fld Tryd.prog 39 2 2 37 := ⟨_, _, Tryd.underlying39, rfl, rfl, rfl⟩
instance : Inf Tryd.prog 39 7 72 (.agg #[.int .i64 0, .int .i64 0, .int .i64 0, .int .i64 0, .string ByteArray.empty, .string ByteArray.empty, .int .i64 0]) := ⟨by kernel_rfl⟩
instance : Agg Tryd.prog 49 := ⟨_, Tryd.underlying49, rfl⟩
instance : Stru Tryd.prog 49 [(0, 1), (1, 1)] := ⟨_, Tryd.underlying49, by kernel_rfl⟩
instance : Flds Tryd.prog 49 [(3, 0), (3, 1)] := ⟨⟨by kernel_rfl, by kernel_rfl, by kernel_rfl, by kernel_rfl⟩⟩
instance : Fld Tryd.prog 49 0 0 3 := ⟨_, _, Tryd.underlying49, rfl, rfl, rfl⟩
instance : Fld Tryd.prog 49 1 1 3 := ⟨_, _, Tryd.underlying49, rfl, rfl, rfl⟩
instance : Inf Tryd.prog 49 2 16 (.agg #[.int .i64 0, .int .i64 0]) := ⟨by kernel_rfl⟩
instance : Agg Tryd.prog 51 := ⟨_, Tryd.underlying51, rfl⟩
instance : Stru Tryd.prog 51 [(0, 1), (1, 1), (2, 5)] := ⟨_, Tryd.underlying51, by kernel_rfl⟩
instance : Flds Tryd.prog 51 [(3, 0), (3, 1), (37, 2)] := ⟨⟨by kernel_rfl, by kernel_rfl, by kernel_rfl, by kernel_rfl⟩⟩
instance : Fld Tryd.prog 51 0 0 3 := ⟨_, _, Tryd.underlying51, rfl, rfl, rfl⟩
instance : Fld Tryd.prog 51 1 1 3 := ⟨_, _, Tryd.underlying51, rfl, rfl, rfl⟩
instance : Fld Tryd.prog 51 2 2 37 := ⟨_, _, Tryd.underlying51, rfl, rfl, rfl⟩
instance : Inf Tryd.prog 51 7 72 (.agg #[.int .i64 0, .int .i64 0, .int .i64 0, .int .i64 0, .string ByteArray.empty, .string ByteArray.empty, .int .i64 0]) := ⟨by kernel_rfl⟩
theorem und52 : Tryd.prog.underlying 52 = some (.map 3 3) := by kernel_rfl
instance : Und Tryd.prog 52 (.map 3 3) := ⟨und52⟩
instance : Sca Tryd.prog 52 := ⟨_, und52, rfl⟩
instance : Inf Tryd.prog 52 1 8 (.map none) := ⟨by kernel_rfl⟩
instance : Sca Tryd.prog 53 := ⟨_, Tryd.underlying53, rfl⟩
instance : Inf Tryd.prog 53 1 8 (.nilFunc) := ⟨by kernel_rfl⟩
theorem und54 : Tryd.prog.underlying 54 = some (.slice 3) := by kernel_rfl
instance : Und Tryd.prog 54 (.slice 3) := ⟨und54⟩
instance : Sca Tryd.prog 54 := ⟨_, und54, rfl⟩
instance : Inf Tryd.prog 54 1 24 (.slice none 0 0) := ⟨by kernel_rfl⟩
instance : Sca Tryd.prog 57 := ⟨_, Tryd.underlying57, rfl⟩
instance : Inf Tryd.prog 57 1 8 (.nilFunc) := ⟨by kernel_rfl⟩
theorem und60 : Tryd.prog.underlying 60 = some (.map 65 3) := by kernel_rfl
instance : Und Tryd.prog 60 (.map 65 3) := ⟨und60⟩
instance : Sca Tryd.prog 60 := ⟨_, und60, rfl⟩
instance : Inf Tryd.prog 60 1 8 (.map none) := ⟨by kernel_rfl⟩
instance : Agg Tryd.prog 63 := ⟨_, Tryd.underlying63, rfl⟩
instance : Stru Tryd.prog 63 [(0, 1), (1, 1)] := ⟨_, Tryd.underlying63, by kernel_rfl⟩
instance : Flds Tryd.prog 63 [(3, 0), (3, 1)] := ⟨⟨by kernel_rfl, by kernel_rfl, by kernel_rfl, by kernel_rfl⟩⟩
instance : Fld Tryd.prog 63 0 0 3 := ⟨_, _, Tryd.underlying63, rfl, rfl, rfl⟩
instance : Fld Tryd.prog 63 1 1 3 := ⟨_, _, Tryd.underlying63, rfl, rfl, rfl⟩
instance : Inf Tryd.prog 63 2 16 (.agg #[.int .i64 0, .int .i64 0]) := ⟨by kernel_rfl⟩
instance : Agg Tryd.prog 65 := ⟨_, Tryd.underlying65, rfl⟩
instance : Stru Tryd.prog 65 [(0, 2), (2, 1)] := ⟨_, Tryd.underlying65, by kernel_rfl⟩
instance : Flds Tryd.prog 65 [(63, 0), (3, 2)] := ⟨⟨by kernel_rfl, by kernel_rfl, by kernel_rfl, by kernel_rfl⟩⟩
instance : Fld Tryd.prog 65 0 0 63 := ⟨_, _, Tryd.underlying65, rfl, rfl, rfl⟩
instance : Fld Tryd.prog 65 1 2 3 := ⟨_, _, Tryd.underlying65, rfl, rfl, rfl⟩
instance : Inf Tryd.prog 65 3 24 (.agg #[.int .i64 0, .int .i64 0, .int .i64 0]) := ⟨by kernel_rfl⟩
instance : Sca Tryd.prog 69 := ⟨_, Tryd.underlying69, rfl⟩
instance : Inf Tryd.prog 69 1 8 (.nilFunc) := ⟨by kernel_rfl⟩
theorem und71 : Tryd.prog.underlying 71 = some (.map 3 74) := by kernel_rfl
instance : Und Tryd.prog 71 (.map 3 74) := ⟨und71⟩
instance : Sca Tryd.prog 71 := ⟨_, und71, rfl⟩
instance : Inf Tryd.prog 71 1 8 (.map none) := ⟨by kernel_rfl⟩
theorem und74 : Tryd.prog.underlying 74 = some (.map 3 4) := by kernel_rfl
instance : Und Tryd.prog 74 (.map 3 4) := ⟨und74⟩
instance : Sca Tryd.prog 74 := ⟨_, und74, rfl⟩
instance : Inf Tryd.prog 74 1 8 (.map none) := ⟨by kernel_rfl⟩
instance : Sca Tryd.prog 80 := ⟨_, Tryd.underlying80, rfl⟩
instance : Inf Tryd.prog 80 1 8 (.nilFunc) := ⟨by kernel_rfl⟩
instance : Sca Tryd.prog 82 := ⟨_, Tryd.underlying82, rfl⟩
instance : Inf Tryd.prog 82 1 8 (.nilFunc) := ⟨by kernel_rfl⟩
theorem und84 : Tryd.prog.underlying 84 = some (.slice 9) := by kernel_rfl
instance : Und Tryd.prog 84 (.slice 9) := ⟨und84⟩
instance : Sca Tryd.prog 84 := ⟨_, und84, rfl⟩
instance : Inf Tryd.prog 84 1 24 (.slice none 0 0) := ⟨by kernel_rfl⟩
theorem und92 : Tryd.prog.underlying 92 = some (.int .u64) := by kernel_rfl
instance : Und Tryd.prog 92 (.int .u64) := ⟨und92⟩
instance : Sca Tryd.prog 92 := ⟨_, und92, rfl⟩
instance : Inf Tryd.prog 92 1 8 (.int .u64 0) := ⟨by kernel_rfl⟩
instance : Sca Tryd.prog 94 := ⟨_, Tryd.underlying94, rfl⟩
instance : Inf Tryd.prog 94 1 8 (.nilFunc) := ⟨by kernel_rfl⟩
theorem und99 : Tryd.prog.underlying 99 = some (.int .i64) := by kernel_rfl
instance : Und Tryd.prog 99 (.int .i64) := ⟨und99⟩
instance : Sca Tryd.prog 99 := ⟨_, und99, rfl⟩
instance : Inf Tryd.prog 99 1 8 (.int .i64 0) := ⟨by kernel_rfl⟩
theorem und107 : Tryd.prog.underlying 107 = some (.int .u32) := by kernel_rfl
instance : Und Tryd.prog 107 (.int .u32) := ⟨und107⟩
instance : Sca Tryd.prog 107 := ⟨_, und107, rfl⟩
instance : Inf Tryd.prog 107 1 4 (.int .u32 0) := ⟨by kernel_rfl⟩
theorem und109 : Tryd.prog.underlying 109 = some (.int .u64) := by kernel_rfl
instance : Und Tryd.prog 109 (.int .u64) := ⟨und109⟩
instance : Sca Tryd.prog 109 := ⟨_, und109, rfl⟩
instance : Inf Tryd.prog 109 1 8 (.int .u64 0) := ⟨by kernel_rfl⟩
theorem und111 : Tryd.prog.underlying 111 = some (.int .u64) := by kernel_rfl
instance : Und Tryd.prog 111 (.int .u64) := ⟨und111⟩
instance : Sca Tryd.prog 111 := ⟨_, und111, rfl⟩
instance : Inf Tryd.prog 111 1 8 (.int .u64 0) := ⟨by kernel_rfl⟩
theorem und115 : Tryd.prog.underlying 115 = some (.pointer 3) := by kernel_rfl
instance : Und Tryd.prog 115 (.pointer 3) := ⟨und115⟩
instance : Sca Tryd.prog 115 := ⟨_, und115, rfl⟩
instance : Inf Tryd.prog 115 1 8 (.pointer none) := ⟨by kernel_rfl⟩
theorem und120 : Tryd.prog.underlying 120 = some (.pointer 111) := by kernel_rfl
instance : Und Tryd.prog 120 (.pointer 111) := ⟨und120⟩
instance : Sca Tryd.prog 120 := ⟨_, und120, rfl⟩
instance : Inf Tryd.prog 120 1 8 (.pointer none) := ⟨by kernel_rfl⟩
theorem und123 : Tryd.prog.underlying 123 = some (.array 256 5) := by kernel_rfl
instance : Und Tryd.prog 123 (.array 256 5) := ⟨und123⟩
instance : Agg Tryd.prog 123 := ⟨_, und123, rfl⟩
instance : Agg Tryd.prog 125 := ⟨_, Tryd.underlying125, rfl⟩
instance : Stru Tryd.prog 125 [(0, 1), (1, 1)] := ⟨_, Tryd.underlying125, by kernel_rfl⟩
instance : Fld Tryd.prog 125 0 0 5 := ⟨_, _, Tryd.underlying125, rfl, rfl, rfl⟩
instance : Fld Tryd.prog 125 1 1 5 := ⟨_, _, Tryd.underlying125, rfl, rfl, rfl⟩
instance : Inf Tryd.prog 125 2 2 (.agg #[.int .u8 0, .int .u8 0]) := ⟨by kernel_rfl⟩
theorem und126 : Tryd.prog.underlying 126 = some (.array 16 125) := by kernel_rfl
instance : Und Tryd.prog 126 (.array 16 125) := ⟨und126⟩
instance : Agg Tryd.prog 126 := ⟨_, und126, rfl⟩
instance : Inf Tryd.prog 126 32 32 (.agg #[.int .u8 0, .int .u8 0, .int .u8 0, .int .u8 0, .int .u8 0, .int .u8 0, .int .u8 0, .int .u8 0, .int .u8 0, .int .u8 0, .int .u8 0, .int .u8 0, .int .u8 0, .int .u8 0, .int .u8 0, .int .u8 0, .int .u8 0, .int .u8 0, .int .u8 0, .int .u8 0, .int .u8 0, .int .u8 0, .int .u8 0, .int .u8 0, .int .u8 0, .int .u8 0, .int .u8 0, .int .u8 0, .int .u8 0, .int .u8 0, .int .u8 0, .int .u8 0]) := ⟨by kernel_rfl⟩
instance : Agg Tryd.prog 133 := ⟨_, Tryd.underlying133, rfl⟩
instance : Stru Tryd.prog 133 [(0, 1), (1, 1), (2, 1), (3, 1)] := ⟨_, Tryd.underlying133, by kernel_rfl⟩
instance : Fld Tryd.prog 133 0 0 17 := ⟨_, _, Tryd.underlying133, rfl, rfl, rfl⟩
instance : Fld Tryd.prog 133 1 1 17 := ⟨_, _, Tryd.underlying133, rfl, rfl, rfl⟩
instance : Fld Tryd.prog 133 2 2 17 := ⟨_, _, Tryd.underlying133, rfl, rfl, rfl⟩
instance : Fld Tryd.prog 133 3 3 9 := ⟨_, _, Tryd.underlying133, rfl, rfl, rfl⟩
instance : Inf Tryd.prog 133 4 40 (.agg #[.pointer none, .pointer none, .pointer none, .string ByteArray.empty]) := ⟨by kernel_rfl⟩
theorem und134 : Tryd.prog.underlying 134 = some (.array 0 16) := by kernel_rfl
instance : Und Tryd.prog 134 (.array 0 16) := ⟨und134⟩
instance : Agg Tryd.prog 134 := ⟨_, und134, rfl⟩
instance : Inf Tryd.prog 134 0 0 (.agg #[]) := ⟨by kernel_rfl⟩
instance : Agg Tryd.prog 136 := ⟨_, Tryd.underlying136, rfl⟩
instance : Stru Tryd.prog 136 [(0, 0)] := ⟨_, Tryd.underlying136, by kernel_rfl⟩
instance : Fld Tryd.prog 136 0 0 134 := ⟨_, _, Tryd.underlying136, rfl, rfl, rfl⟩
instance : Inf Tryd.prog 136 0 0 (.agg #[]) := ⟨by kernel_rfl⟩
theorem und138 : Tryd.prog.underlying 138 = some (.int .u8) := by kernel_rfl
instance : Und Tryd.prog 138 (.int .u8) := ⟨und138⟩
instance : Sca Tryd.prog 138 := ⟨_, und138, rfl⟩
instance : Inf Tryd.prog 138 1 1 (.int .u8 0) := ⟨by kernel_rfl⟩
theorem und139 : Tryd.prog.underlying 139 = some (.int .u8) := by kernel_rfl
instance : Und Tryd.prog 139 (.int .u8) := ⟨und139⟩
instance : Sca Tryd.prog 139 := ⟨_, und139, rfl⟩
instance : Inf Tryd.prog 139 1 1 (.int .u8 0) := ⟨by kernel_rfl⟩
instance : Sca Tryd.prog 140 := ⟨_, Tryd.underlying140, rfl⟩
instance : Inf Tryd.prog 140 1 8 (.nilFunc) := ⟨by kernel_rfl⟩
theorem und141 : Tryd.prog.underlying 141 = some (.pointer 5) := by kernel_rfl
instance : Und Tryd.prog 141 (.pointer 5) := ⟨und141⟩
instance : Sca Tryd.prog 141 := ⟨_, und141, rfl⟩
instance : Inf Tryd.prog 141 1 8 (.pointer none) := ⟨by kernel_rfl⟩
theorem und142 : Tryd.prog.underlying 142 = some (.int .i32) := by kernel_rfl
instance : Und Tryd.prog 142 (.int .i32) := ⟨und142⟩
instance : Sca Tryd.prog 142 := ⟨_, und142, rfl⟩
instance : Inf Tryd.prog 142 1 4 (.int .i32 0) := ⟨by kernel_rfl⟩
theorem und143 : Tryd.prog.underlying 143 = some (.int .i32) := by kernel_rfl
instance : Und Tryd.prog 143 (.int .i32) := ⟨und143⟩
instance : Sca Tryd.prog 143 := ⟨_, und143, rfl⟩
instance : Inf Tryd.prog 143 1 4 (.int .i32 0) := ⟨by kernel_rfl⟩
instance : Agg Tryd.prog 145 := ⟨_, Tryd.underlying145, rfl⟩
instance : Stru Tryd.prog 145 [(0, 1), (1, 1), (2, 1), (3, 1), (4, 1), (5, 1), (6, 1), (7, 1), (8, 1), (9, 1), (10, 1)] := ⟨_, Tryd.underlying145, by kernel_rfl⟩
instance : Fld Tryd.prog 145 0 0 12 := ⟨_, _, Tryd.underlying145, rfl, rfl, rfl⟩
instance : Fld Tryd.prog 145 1 1 12 := ⟨_, _, Tryd.underlying145, rfl, rfl, rfl⟩
instance : Fld Tryd.prog 145 2 2 107 := ⟨_, _, Tryd.underlying145, rfl, rfl, rfl⟩
instance : Fld Tryd.prog 145 3 3 138 := ⟨_, _, Tryd.underlying145, rfl, rfl, rfl⟩
instance : Fld Tryd.prog 145 4 4 5 := ⟨_, _, Tryd.underlying145, rfl, rfl, rfl⟩
instance : Fld Tryd.prog 145 5 5 5 := ⟨_, _, Tryd.underlying145, rfl, rfl, rfl⟩
instance : Fld Tryd.prog 145 6 6 139 := ⟨_, _, Tryd.underlying145, rfl, rfl, rfl⟩
instance : Fld Tryd.prog 145 7 7 140 := ⟨_, _, Tryd.underlying145, rfl, rfl, rfl⟩
instance : Fld Tryd.prog 145 8 8 141 := ⟨_, _, Tryd.underlying145, rfl, rfl, rfl⟩
instance : Fld Tryd.prog 145 9 9 142 := ⟨_, _, Tryd.underlying145, rfl, rfl, rfl⟩
instance : Fld Tryd.prog 145 10 10 143 := ⟨_, _, Tryd.underlying145, rfl, rfl, rfl⟩
instance : Inf Tryd.prog 145 11 48 (.agg #[.int .u64 0, .int .u64 0, .int .u32 0, .int .u8 0, .int .u8 0, .int .u8 0, .int .u8 0, .nilFunc, .pointer none, .int .i32 0, .int .i32 0]) := ⟨by kernel_rfl⟩
theorem mixed : Tryd.prog.follows .mixedOrders = true := by kernel_rfl
end Go.Proofs.YtgcclpfpnfmjcaaDoor
