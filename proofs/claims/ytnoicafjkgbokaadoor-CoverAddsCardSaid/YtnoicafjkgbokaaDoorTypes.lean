import Derived.Test.YtnoicafjkgbokaaDoorEq
import Derived.Test.YtnoicafjkgbokaaDoorProg
namespace Go.Proofs.YtnoicafjkgbokaaDoor
open Go
instance : Inf Tryd.prog 0 1 0 (.tuple #[]) := ⟨by kernel_rfl⟩
instance : Sca Tryd.prog 1 := ⟨_, Tryd.underlying1, rfl⟩
instance : Inf Tryd.prog 1 1 8 (.nilFunc) := ⟨by kernel_rfl⟩
theorem und2 : Tryd.prog.underlying 2 = some (.int .i64) := by kernel_rfl
instance : Und Tryd.prog 2 (.int .i64) := ⟨und2⟩
instance : Sca Tryd.prog 2 := ⟨_, und2, rfl⟩
instance : Inf Tryd.prog 2 1 8 (.int .i64 0) := ⟨by kernel_rfl⟩
theorem und3 : Tryd.prog.underlying 3 = some (.int .i64) := by kernel_rfl
instance : Und Tryd.prog 3 (.int .i64) := ⟨und3⟩
instance : Sca Tryd.prog 3 := ⟨_, und3, rfl⟩
instance : Inf Tryd.prog 3 1 8 (.int .i64 0) := ⟨by kernel_rfl⟩
theorem und4 : Tryd.prog.underlying 4 = some (.bool) := by kernel_rfl
instance : Und Tryd.prog 4 (.bool) := ⟨und4⟩
instance : Sca Tryd.prog 4 := ⟨_, und4, rfl⟩
instance : Inf Tryd.prog 4 1 1 (.bool false) := ⟨by kernel_rfl⟩
theorem und5 : Tryd.prog.underlying 5 = some (.int .u8) := by kernel_rfl
instance : Und Tryd.prog 5 (.int .u8) := ⟨und5⟩
instance : Sca Tryd.prog 5 := ⟨_, und5, rfl⟩
instance : Inf Tryd.prog 5 1 1 (.int .u8 0) := ⟨by kernel_rfl⟩
theorem und6 : Tryd.prog.underlying 6 = some (.int .u8) := by kernel_rfl
instance : Und Tryd.prog 6 (.int .u8) := ⟨und6⟩
instance : Sca Tryd.prog 6 := ⟨_, und6, rfl⟩
instance : Inf Tryd.prog 6 1 1 (.int .u8 0) := ⟨by kernel_rfl⟩
instance : Agg Tryd.prog 8 := ⟨_, Tryd.underlying8, rfl⟩
instance : Stru Tryd.prog 8 [(0, 1), (1, 1), (2, 1), (3, 1)] := ⟨_, Tryd.underlying8, by kernel_rfl⟩
instance : Fld Tryd.prog 8 0 0 2 := ⟨_, _, Tryd.underlying8, rfl, rfl, rfl⟩
instance : Fld Tryd.prog 8 1 1 3 := ⟨_, _, Tryd.underlying8, rfl, rfl, rfl⟩
instance : Fld Tryd.prog 8 2 2 4 := ⟨_, _, Tryd.underlying8, rfl, rfl, rfl⟩
instance : Fld Tryd.prog 8 3 3 6 := ⟨_, _, Tryd.underlying8, rfl, rfl, rfl⟩
instance : Inf Tryd.prog 8 4 24 (.agg #[.int .i64 0, .int .i64 0, .bool false, .int .u8 0]) := ⟨by kernel_rfl⟩
theorem und9 : Tryd.prog.underlying 9 = some (.string) := by kernel_rfl
instance : Und Tryd.prog 9 (.string) := ⟨und9⟩
instance : Sca Tryd.prog 9 := ⟨_, und9, rfl⟩
instance : Inf Tryd.prog 9 1 16 (.string ByteArray.empty) := ⟨by kernel_rfl⟩
theorem und10 : Tryd.prog.underlying 10 = some (.string) := by kernel_rfl
instance : Und Tryd.prog 10 (.string) := ⟨und10⟩
instance : Sca Tryd.prog 10 := ⟨_, und10, rfl⟩
instance : Inf Tryd.prog 10 1 16 (.string ByteArray.empty) := ⟨by kernel_rfl⟩
theorem und11 : Tryd.prog.underlying 11 = some (.string) := by kernel_rfl
instance : Und Tryd.prog 11 (.string) := ⟨und11⟩
instance : Sca Tryd.prog 11 := ⟨_, und11, rfl⟩
instance : Inf Tryd.prog 11 1 16 (.string ByteArray.empty) := ⟨by kernel_rfl⟩
theorem und12 : Tryd.prog.underlying 12 = some (.int .u64) := by kernel_rfl
instance : Und Tryd.prog 12 (.int .u64) := ⟨und12⟩
instance : Sca Tryd.prog 12 := ⟨_, und12, rfl⟩
instance : Inf Tryd.prog 12 1 8 (.int .u64 0) := ⟨by kernel_rfl⟩
instance : Agg Tryd.prog 14 := ⟨_, Tryd.underlying14, rfl⟩
instance : Stru Tryd.prog 14 [(0, 1), (1, 1)] := ⟨_, Tryd.underlying14, by kernel_rfl⟩
instance : Fld Tryd.prog 14 0 0 9 := ⟨_, _, Tryd.underlying14, rfl, rfl, rfl⟩
instance : Fld Tryd.prog 14 1 1 12 := ⟨_, _, Tryd.underlying14, rfl, rfl, rfl⟩
instance : Inf Tryd.prog 14 2 24 (.agg #[.string ByteArray.empty, .int .u64 0]) := ⟨by kernel_rfl⟩
theorem und15 : Tryd.prog.underlying 15 = some (.pointer 91) := by kernel_rfl
instance : Und Tryd.prog 15 (.pointer 91) := ⟨und15⟩
instance : Sca Tryd.prog 15 := ⟨_, und15, rfl⟩
instance : Inf Tryd.prog 15 1 8 (.pointer none) := ⟨by kernel_rfl⟩
theorem und16 : Tryd.prog.underlying 16 = some (.pointer 94) := by kernel_rfl
instance : Und Tryd.prog 16 (.pointer 94) := ⟨und16⟩
instance : Sca Tryd.prog 16 := ⟨_, und16, rfl⟩
instance : Inf Tryd.prog 16 1 8 (.pointer none) := ⟨by kernel_rfl⟩
theorem und17 : Tryd.prog.underlying 17 = some (.pointer 103) := by kernel_rfl
instance : Und Tryd.prog 17 (.pointer 103) := ⟨und17⟩
instance : Sca Tryd.prog 17 := ⟨_, und17, rfl⟩
instance : Inf Tryd.prog 17 1 8 (.pointer none) := ⟨by kernel_rfl⟩
instance : Agg Tryd.prog 19 := ⟨_, Tryd.underlying19, rfl⟩
instance : Stru Tryd.prog 19 [(0, 1)] := ⟨_, Tryd.underlying19, by kernel_rfl⟩
instance : Fld Tryd.prog 19 0 0 17 := ⟨_, _, Tryd.underlying19, rfl, rfl, rfl⟩
instance : Inf Tryd.prog 19 1 8 (.agg #[.pointer none]) := ⟨by kernel_rfl⟩
theorem und21 : Tryd.prog.underlying 21 = some (.int .i32) := by kernel_rfl
instance : Und Tryd.prog 21 (.int .i32) := ⟨und21⟩
instance : Sca Tryd.prog 21 := ⟨_, und21, rfl⟩
instance : Inf Tryd.prog 21 1 4 (.int .i32 0) := ⟨by kernel_rfl⟩
theorem und22 : Tryd.prog.underlying 22 = some (.slice 9) := by kernel_rfl
instance : Und Tryd.prog 22 (.slice 9) := ⟨und22⟩
instance : Sca Tryd.prog 22 := ⟨_, und22, rfl⟩
instance : Inf Tryd.prog 22 1 24 (.slice none 0 0) := ⟨by kernel_rfl⟩
instance : Sca Tryd.prog 31 := ⟨_, Tryd.underlying31, rfl⟩
instance : Inf Tryd.prog 31 1 8 (.nilFunc) := ⟨by kernel_rfl⟩
instance : Sca Tryd.prog 43 := ⟨_, Tryd.underlying43, rfl⟩
instance : Inf Tryd.prog 43 1 8 (.nilFunc) := ⟨by kernel_rfl⟩
theorem und45 : Tryd.prog.underlying 45 = some (.slice 22) := by kernel_rfl
instance : Und Tryd.prog 45 (.slice 22) := ⟨und45⟩
instance : Sca Tryd.prog 45 := ⟨_, und45, rfl⟩
instance : Inf Tryd.prog 45 1 24 (.slice none 0 0) := ⟨by kernel_rfl⟩
theorem und51 : Tryd.prog.underlying 51 = some (.int .u64) := by kernel_rfl
instance : Und Tryd.prog 51 (.int .u64) := ⟨und51⟩
instance : Sca Tryd.prog 51 := ⟨_, und51, rfl⟩
instance : Inf Tryd.prog 51 1 8 (.int .u64 0) := ⟨by kernel_rfl⟩
instance : Sca Tryd.prog 54 := ⟨_, Tryd.underlying54, rfl⟩
instance : Inf Tryd.prog 54 1 8 (.nilFunc) := ⟨by kernel_rfl⟩
theorem und58 : Tryd.prog.underlying 58 = some (.int .i64) := by kernel_rfl
instance : Und Tryd.prog 58 (.int .i64) := ⟨und58⟩
instance : Sca Tryd.prog 58 := ⟨_, und58, rfl⟩
instance : Inf Tryd.prog 58 1 8 (.int .i64 0) := ⟨by kernel_rfl⟩
theorem und66 : Tryd.prog.underlying 66 = some (.int .u32) := by kernel_rfl
instance : Und Tryd.prog 66 (.int .u32) := ⟨und66⟩
instance : Sca Tryd.prog 66 := ⟨_, und66, rfl⟩
instance : Inf Tryd.prog 66 1 4 (.int .u32 0) := ⟨by kernel_rfl⟩
theorem und68 : Tryd.prog.underlying 68 = some (.int .u64) := by kernel_rfl
instance : Und Tryd.prog 68 (.int .u64) := ⟨und68⟩
instance : Sca Tryd.prog 68 := ⟨_, und68, rfl⟩
instance : Inf Tryd.prog 68 1 8 (.int .u64 0) := ⟨by kernel_rfl⟩
theorem und70 : Tryd.prog.underlying 70 = some (.int .u64) := by kernel_rfl
instance : Und Tryd.prog 70 (.int .u64) := ⟨und70⟩
instance : Sca Tryd.prog 70 := ⟨_, und70, rfl⟩
instance : Inf Tryd.prog 70 1 8 (.int .u64 0) := ⟨by kernel_rfl⟩
theorem und74 : Tryd.prog.underlying 74 = some (.pointer 3) := by kernel_rfl
instance : Und Tryd.prog 74 (.pointer 3) := ⟨und74⟩
instance : Sca Tryd.prog 74 := ⟨_, und74, rfl⟩
instance : Inf Tryd.prog 74 1 8 (.pointer none) := ⟨by kernel_rfl⟩
theorem und78 : Tryd.prog.underlying 78 = some (.pointer 70) := by kernel_rfl
instance : Und Tryd.prog 78 (.pointer 70) := ⟨und78⟩
instance : Sca Tryd.prog 78 := ⟨_, und78, rfl⟩
instance : Inf Tryd.prog 78 1 8 (.pointer none) := ⟨by kernel_rfl⟩
theorem und81 : Tryd.prog.underlying 81 = some (.array 256 5) := by kernel_rfl
instance : Und Tryd.prog 81 (.array 256 5) := ⟨und81⟩
instance : Agg Tryd.prog 81 := ⟨_, und81, rfl⟩
instance : Agg Tryd.prog 83 := ⟨_, Tryd.underlying83, rfl⟩
instance : Stru Tryd.prog 83 [(0, 1), (1, 1)] := ⟨_, Tryd.underlying83, by kernel_rfl⟩
instance : Fld Tryd.prog 83 0 0 5 := ⟨_, _, Tryd.underlying83, rfl, rfl, rfl⟩
instance : Fld Tryd.prog 83 1 1 5 := ⟨_, _, Tryd.underlying83, rfl, rfl, rfl⟩
instance : Inf Tryd.prog 83 2 2 (.agg #[.int .u8 0, .int .u8 0]) := ⟨by kernel_rfl⟩
theorem und84 : Tryd.prog.underlying 84 = some (.array 16 83) := by kernel_rfl
instance : Und Tryd.prog 84 (.array 16 83) := ⟨und84⟩
instance : Agg Tryd.prog 84 := ⟨_, und84, rfl⟩
instance : Inf Tryd.prog 84 32 32 (.agg #[.int .u8 0, .int .u8 0, .int .u8 0, .int .u8 0, .int .u8 0, .int .u8 0, .int .u8 0, .int .u8 0, .int .u8 0, .int .u8 0, .int .u8 0, .int .u8 0, .int .u8 0, .int .u8 0, .int .u8 0, .int .u8 0, .int .u8 0, .int .u8 0, .int .u8 0, .int .u8 0, .int .u8 0, .int .u8 0, .int .u8 0, .int .u8 0, .int .u8 0, .int .u8 0, .int .u8 0, .int .u8 0, .int .u8 0, .int .u8 0, .int .u8 0, .int .u8 0]) := ⟨by kernel_rfl⟩
instance : Agg Tryd.prog 91 := ⟨_, Tryd.underlying91, rfl⟩
instance : Stru Tryd.prog 91 [(0, 1), (1, 1), (2, 1), (3, 1)] := ⟨_, Tryd.underlying91, by kernel_rfl⟩
instance : Fld Tryd.prog 91 0 0 17 := ⟨_, _, Tryd.underlying91, rfl, rfl, rfl⟩
instance : Fld Tryd.prog 91 1 1 17 := ⟨_, _, Tryd.underlying91, rfl, rfl, rfl⟩
instance : Fld Tryd.prog 91 2 2 17 := ⟨_, _, Tryd.underlying91, rfl, rfl, rfl⟩
instance : Fld Tryd.prog 91 3 3 9 := ⟨_, _, Tryd.underlying91, rfl, rfl, rfl⟩
instance : Inf Tryd.prog 91 4 40 (.agg #[.pointer none, .pointer none, .pointer none, .string ByteArray.empty]) := ⟨by kernel_rfl⟩
theorem und92 : Tryd.prog.underlying 92 = some (.array 0 16) := by kernel_rfl
instance : Und Tryd.prog 92 (.array 0 16) := ⟨und92⟩
instance : Agg Tryd.prog 92 := ⟨_, und92, rfl⟩
instance : Inf Tryd.prog 92 0 0 (.agg #[]) := ⟨by kernel_rfl⟩
instance : Agg Tryd.prog 94 := ⟨_, Tryd.underlying94, rfl⟩
instance : Stru Tryd.prog 94 [(0, 0)] := ⟨_, Tryd.underlying94, by kernel_rfl⟩
instance : Fld Tryd.prog 94 0 0 92 := ⟨_, _, Tryd.underlying94, rfl, rfl, rfl⟩
instance : Inf Tryd.prog 94 0 0 (.agg #[]) := ⟨by kernel_rfl⟩
theorem und96 : Tryd.prog.underlying 96 = some (.int .u8) := by kernel_rfl
instance : Und Tryd.prog 96 (.int .u8) := ⟨und96⟩
instance : Sca Tryd.prog 96 := ⟨_, und96, rfl⟩
instance : Inf Tryd.prog 96 1 1 (.int .u8 0) := ⟨by kernel_rfl⟩
theorem und97 : Tryd.prog.underlying 97 = some (.int .u8) := by kernel_rfl
instance : Und Tryd.prog 97 (.int .u8) := ⟨und97⟩
instance : Sca Tryd.prog 97 := ⟨_, und97, rfl⟩
instance : Inf Tryd.prog 97 1 1 (.int .u8 0) := ⟨by kernel_rfl⟩
instance : Sca Tryd.prog 98 := ⟨_, Tryd.underlying98, rfl⟩
instance : Inf Tryd.prog 98 1 8 (.nilFunc) := ⟨by kernel_rfl⟩
theorem und99 : Tryd.prog.underlying 99 = some (.pointer 5) := by kernel_rfl
instance : Und Tryd.prog 99 (.pointer 5) := ⟨und99⟩
instance : Sca Tryd.prog 99 := ⟨_, und99, rfl⟩
instance : Inf Tryd.prog 99 1 8 (.pointer none) := ⟨by kernel_rfl⟩
theorem und100 : Tryd.prog.underlying 100 = some (.int .i32) := by kernel_rfl
instance : Und Tryd.prog 100 (.int .i32) := ⟨und100⟩
instance : Sca Tryd.prog 100 := ⟨_, und100, rfl⟩
instance : Inf Tryd.prog 100 1 4 (.int .i32 0) := ⟨by kernel_rfl⟩
theorem und101 : Tryd.prog.underlying 101 = some (.int .i32) := by kernel_rfl
instance : Und Tryd.prog 101 (.int .i32) := ⟨und101⟩
instance : Sca Tryd.prog 101 := ⟨_, und101, rfl⟩
instance : Inf Tryd.prog 101 1 4 (.int .i32 0) := ⟨by kernel_rfl⟩
instance : Agg Tryd.prog 103 := ⟨_, Tryd.underlying103, rfl⟩
instance : Stru Tryd.prog 103 [(0, 1), (1, 1), (2, 1), (3, 1), (4, 1), (5, 1), (6, 1), (7, 1), (8, 1), (9, 1), (10, 1)] := ⟨_, Tryd.underlying103, by kernel_rfl⟩
instance : Fld Tryd.prog 103 0 0 12 := ⟨_, _, Tryd.underlying103, rfl, rfl, rfl⟩
instance : Fld Tryd.prog 103 1 1 12 := ⟨_, _, Tryd.underlying103, rfl, rfl, rfl⟩
instance : Fld Tryd.prog 103 2 2 66 := ⟨_, _, Tryd.underlying103, rfl, rfl, rfl⟩
instance : Fld Tryd.prog 103 3 3 96 := ⟨_, _, Tryd.underlying103, rfl, rfl, rfl⟩
instance : Fld Tryd.prog 103 4 4 5 := ⟨_, _, Tryd.underlying103, rfl, rfl, rfl⟩
instance : Fld Tryd.prog 103 5 5 5 := ⟨_, _, Tryd.underlying103, rfl, rfl, rfl⟩
instance : Fld Tryd.prog 103 6 6 97 := ⟨_, _, Tryd.underlying103, rfl, rfl, rfl⟩
instance : Fld Tryd.prog 103 7 7 98 := ⟨_, _, Tryd.underlying103, rfl, rfl, rfl⟩
instance : Fld Tryd.prog 103 8 8 99 := ⟨_, _, Tryd.underlying103, rfl, rfl, rfl⟩
instance : Fld Tryd.prog 103 9 9 100 := ⟨_, _, Tryd.underlying103, rfl, rfl, rfl⟩
instance : Fld Tryd.prog 103 10 10 101 := ⟨_, _, Tryd.underlying103, rfl, rfl, rfl⟩
instance : Inf Tryd.prog 103 11 48 (.agg #[.int .u64 0, .int .u64 0, .int .u32 0, .int .u8 0, .int .u8 0, .int .u8 0, .int .u8 0, .nilFunc, .pointer none, .int .i32 0, .int .i32 0]) := ⟨by kernel_rfl⟩
theorem mixed : Tryd.prog.follows .mixedOrders = true := by kernel_rfl
end Go.Proofs.YtnoicafjkgbokaaDoor
