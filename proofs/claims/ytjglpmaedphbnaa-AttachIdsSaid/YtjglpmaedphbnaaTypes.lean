import Derived.Test.YtjglpmaedphbnaaMore
import Derived.Test.YtjglpmaedphbnaaProg
namespace Go.Proofs.Ytjglpmaedphbnaa
open Go
instance : Inf Try.prog 0 1 0 (.tuple #[]) := ⟨by kernel_rfl⟩
instance : Sca Try.prog 1 := ⟨_, Try.underlying1, rfl⟩
instance : Inf Try.prog 1 1 8 (.nilFunc) := ⟨by kernel_rfl⟩
theorem und2 : Try.prog.underlying 2 = some (.int .i64) := by kernel_rfl
instance : Und Try.prog 2 (.int .i64) := ⟨und2⟩
instance : Sca Try.prog 2 := ⟨_, und2, rfl⟩
instance : Inf Try.prog 2 1 8 (.int .i64 0) := ⟨by kernel_rfl⟩
theorem und3 : Try.prog.underlying 3 = some (.int .i64) := by kernel_rfl
instance : Und Try.prog 3 (.int .i64) := ⟨und3⟩
instance : Sca Try.prog 3 := ⟨_, und3, rfl⟩
instance : Inf Try.prog 3 1 8 (.int .i64 0) := ⟨by kernel_rfl⟩
theorem und4 : Try.prog.underlying 4 = some (.bool) := by kernel_rfl
instance : Und Try.prog 4 (.bool) := ⟨und4⟩
instance : Sca Try.prog 4 := ⟨_, und4, rfl⟩
instance : Inf Try.prog 4 1 1 (.bool false) := ⟨by kernel_rfl⟩
theorem und5 : Try.prog.underlying 5 = some (.int .u8) := by kernel_rfl
instance : Und Try.prog 5 (.int .u8) := ⟨und5⟩
instance : Sca Try.prog 5 := ⟨_, und5, rfl⟩
instance : Inf Try.prog 5 1 1 (.int .u8 0) := ⟨by kernel_rfl⟩
theorem und6 : Try.prog.underlying 6 = some (.int .u8) := by kernel_rfl
instance : Und Try.prog 6 (.int .u8) := ⟨und6⟩
instance : Sca Try.prog 6 := ⟨_, und6, rfl⟩
instance : Inf Try.prog 6 1 1 (.int .u8 0) := ⟨by kernel_rfl⟩
instance : Agg Try.prog 8 := ⟨_, Try.underlying8, rfl⟩
instance : Stru Try.prog 8 [(0, 1), (1, 1), (2, 1), (3, 1)] := ⟨_, Try.underlying8, by kernel_rfl⟩
instance : Fld Try.prog 8 0 0 2 := ⟨_, _, Try.underlying8, rfl, rfl, rfl⟩
instance : Fld Try.prog 8 1 1 3 := ⟨_, _, Try.underlying8, rfl, rfl, rfl⟩
instance : Fld Try.prog 8 2 2 4 := ⟨_, _, Try.underlying8, rfl, rfl, rfl⟩
instance : Fld Try.prog 8 3 3 6 := ⟨_, _, Try.underlying8, rfl, rfl, rfl⟩
instance : Inf Try.prog 8 4 24 (.agg #[.int .i64 0, .int .i64 0, .bool false, .int .u8 0]) := ⟨by kernel_rfl⟩
theorem und9 : Try.prog.underlying 9 = some (.string) := by kernel_rfl
instance : Und Try.prog 9 (.string) := ⟨und9⟩
instance : Sca Try.prog 9 := ⟨_, und9, rfl⟩
instance : Inf Try.prog 9 1 16 (.string ByteArray.empty) := ⟨by kernel_rfl⟩
theorem und10 : Try.prog.underlying 10 = some (.string) := by kernel_rfl
instance : Und Try.prog 10 (.string) := ⟨und10⟩
instance : Sca Try.prog 10 := ⟨_, und10, rfl⟩
instance : Inf Try.prog 10 1 16 (.string ByteArray.empty) := ⟨by kernel_rfl⟩
theorem und11 : Try.prog.underlying 11 = some (.string) := by kernel_rfl
instance : Und Try.prog 11 (.string) := ⟨und11⟩
instance : Sca Try.prog 11 := ⟨_, und11, rfl⟩
instance : Inf Try.prog 11 1 16 (.string ByteArray.empty) := ⟨by kernel_rfl⟩
theorem und12 : Try.prog.underlying 12 = some (.int .u64) := by kernel_rfl
instance : Und Try.prog 12 (.int .u64) := ⟨und12⟩
instance : Sca Try.prog 12 := ⟨_, und12, rfl⟩
instance : Inf Try.prog 12 1 8 (.int .u64 0) := ⟨by kernel_rfl⟩
instance : Agg Try.prog 14 := ⟨_, Try.underlying14, rfl⟩
instance : Stru Try.prog 14 [(0, 1), (1, 1)] := ⟨_, Try.underlying14, by kernel_rfl⟩
instance : Fld Try.prog 14 0 0 9 := ⟨_, _, Try.underlying14, rfl, rfl, rfl⟩
instance : Fld Try.prog 14 1 1 12 := ⟨_, _, Try.underlying14, rfl, rfl, rfl⟩
instance : Inf Try.prog 14 2 24 (.agg #[.string ByteArray.empty, .int .u64 0]) := ⟨by kernel_rfl⟩
theorem und15 : Try.prog.underlying 15 = some (.pointer 98) := by kernel_rfl
instance : Und Try.prog 15 (.pointer 98) := ⟨und15⟩
instance : Sca Try.prog 15 := ⟨_, und15, rfl⟩
instance : Inf Try.prog 15 1 8 (.pointer none) := ⟨by kernel_rfl⟩
theorem und16 : Try.prog.underlying 16 = some (.pointer 101) := by kernel_rfl
instance : Und Try.prog 16 (.pointer 101) := ⟨und16⟩
instance : Sca Try.prog 16 := ⟨_, und16, rfl⟩
instance : Inf Try.prog 16 1 8 (.pointer none) := ⟨by kernel_rfl⟩
theorem und17 : Try.prog.underlying 17 = some (.pointer 109) := by kernel_rfl
instance : Und Try.prog 17 (.pointer 109) := ⟨und17⟩
instance : Sca Try.prog 17 := ⟨_, und17, rfl⟩
instance : Inf Try.prog 17 1 8 (.pointer none) := ⟨by kernel_rfl⟩
instance : Agg Try.prog 19 := ⟨_, Try.underlying19, rfl⟩
instance : Stru Try.prog 19 [(0, 1)] := ⟨_, Try.underlying19, by kernel_rfl⟩
instance : Fld Try.prog 19 0 0 17 := ⟨_, _, Try.underlying19, rfl, rfl, rfl⟩
instance : Inf Try.prog 19 1 8 (.agg #[.pointer none]) := ⟨by kernel_rfl⟩
theorem und22 : Try.prog.underlying 22 = some (.slice 37) := by kernel_rfl
instance : Und Try.prog 22 (.slice 37) := ⟨und22⟩
instance : Sca Try.prog 22 := ⟨_, und22, rfl⟩
instance : Inf Try.prog 22 1 24 (.slice none 0 0) := ⟨by kernel_rfl⟩
theorem und23 : Try.prog.underlying 23 = some (.pointer 58) := by kernel_rfl
instance : Und Try.prog 23 (.pointer 58) := ⟨und23⟩
instance : Sca Try.prog 23 := ⟨_, und23, rfl⟩
instance : Inf Try.prog 23 1 8 (.pointer none) := ⟨by kernel_rfl⟩
theorem und24 : Try.prog.underlying 24 = some (.int .i64) := by kernel_rfl
instance : Und Try.prog 24 (.int .i64) := ⟨und24⟩
instance : Sca Try.prog 24 := ⟨_, und24, rfl⟩
instance : Inf Try.prog 24 1 8 (.int .i64 0) := ⟨by kernel_rfl⟩
theorem und27 : Try.prog.underlying 27 = some (.pointer 49) := by kernel_rfl
instance : Und Try.prog 27 (.pointer 49) := ⟨und27⟩
instance : Sca Try.prog 27 := ⟨_, und27, rfl⟩
instance : Inf Try.prog 27 1 8 (.pointer none) := ⟨by kernel_rfl⟩
theorem und30 : Try.prog.underlying 30 = some (.pointer 61) := by kernel_rfl
instance : Und Try.prog 30 (.pointer 61) := ⟨und30⟩
instance : Sca Try.prog 30 := ⟨_, und30, rfl⟩
instance : Inf Try.prog 30 1 8 (.pointer none) := ⟨by kernel_rfl⟩
theorem und32 : Try.prog.underlying 32 = some (.pointer 35) := by kernel_rfl
instance : Und Try.prog 32 (.pointer 35) := ⟨und32⟩
instance : Sca Try.prog 32 := ⟨_, und32, rfl⟩
instance : Inf Try.prog 32 1 8 (.pointer none) := ⟨by kernel_rfl⟩
theorem und33 : Try.prog.underlying 33 = some (.slice 65) := by kernel_rfl
instance : Und Try.prog 33 (.slice 65) := ⟨und33⟩
instance : Sca Try.prog 33 := ⟨_, und33, rfl⟩
instance : Inf Try.prog 33 1 24 (.slice none 0 0) := ⟨by kernel_rfl⟩
instance : Agg Try.prog 35 := ⟨_, Try.underlying35, rfl⟩
instance : Stru Try.prog 35 [(0, 1)] := ⟨_, Try.underlying35, by kernel_rfl⟩
instance : Fld Try.prog 35 0 0 33 := ⟨_, _, Try.underlying35, rfl, rfl, rfl⟩
instance : Inf Try.prog 35 1 24 (.agg #[.slice none 0 0]) := ⟨by kernel_rfl⟩
instance : Agg Try.prog 37 := ⟨_, Try.underlying37, rfl⟩
instance : Stru Try.prog 37 [(0, 1), (1, 1), (2, 1)] := ⟨_, Try.underlying37, by kernel_rfl⟩
instance : Fld Try.prog 37 0 0 3 := ⟨_, _, Try.underlying37, rfl, rfl, rfl⟩
instance : Fld Try.prog 37 1 1 3 := ⟨_, _, Try.underlying37, rfl, rfl, rfl⟩
instance : Fld Try.prog 37 2 2 3 := ⟨_, _, Try.underlying37, rfl, rfl, rfl⟩
instance : Inf Try.prog 37 3 24 (.agg #[.int .i64 0, .int .i64 0, .int .i64 0]) := ⟨by kernel_rfl⟩
instance : Sca Try.prog 40 := ⟨_, Try.underlying40, rfl⟩
instance : Inf Try.prog 40 1 8 (.nilFunc) := ⟨by kernel_rfl⟩
instance : Agg Try.prog 49 := ⟨_, Try.underlying49, rfl⟩
instance : Stru Try.prog 49 [(0, 1), (1, 1), (2, 1), (3, 1), (4, 1)] := ⟨_, Try.underlying49, by kernel_rfl⟩
instance : Fld Try.prog 49 0 0 3 := ⟨_, _, Try.underlying49, rfl, rfl, rfl⟩
instance : Fld Try.prog 49 1 1 3 := ⟨_, _, Try.underlying49, rfl, rfl, rfl⟩
instance : Fld Try.prog 49 2 2 3 := ⟨_, _, Try.underlying49, rfl, rfl, rfl⟩
instance : Fld Try.prog 49 3 3 3 := ⟨_, _, Try.underlying49, rfl, rfl, rfl⟩
instance : Fld Try.prog 49 4 4 3 := ⟨_, _, Try.underlying49, rfl, rfl, rfl⟩
instance : Inf Try.prog 49 5 40 (.agg #[.int .i64 0, .int .i64 0, .int .i64 0, .int .i64 0, .int .i64 0]) := ⟨by kernel_rfl⟩
theorem und52 : Try.prog.underlying 52 = some (.slice 3) := by kernel_rfl
instance : Und Try.prog 52 (.slice 3) := ⟨und52⟩
instance : Sca Try.prog 52 := ⟨_, und52, rfl⟩
instance : Inf Try.prog 52 1 24 (.slice none 0 0) := ⟨by kernel_rfl⟩
instance : Agg Try.prog 58 := ⟨_, Try.underlying58, rfl⟩
instance : Stru Try.prog 58 [(0, 1), (1, 1), (2, 1), (3, 1), (4, 1)] := ⟨_, Try.underlying58, by kernel_rfl⟩
instance : Fld Try.prog 58 0 0 3 := ⟨_, _, Try.underlying58, rfl, rfl, rfl⟩
instance : Fld Try.prog 58 1 1 3 := ⟨_, _, Try.underlying58, rfl, rfl, rfl⟩
instance : Fld Try.prog 58 2 2 3 := ⟨_, _, Try.underlying58, rfl, rfl, rfl⟩
instance : Fld Try.prog 58 3 3 3 := ⟨_, _, Try.underlying58, rfl, rfl, rfl⟩
instance : Fld Try.prog 58 4 4 3 := ⟨_, _, Try.underlying58, rfl, rfl, rfl⟩
instance : Inf Try.prog 58 5 40 (.agg #[.int .i64 0, .int .i64 0, .int .i64 0, .int .i64 0, .int .i64 0]) := ⟨by kernel_rfl⟩
theorem und59 : Try.prog.underlying 59 = some (.map 3 3) := by kernel_rfl
instance : Und Try.prog 59 (.map 3 3) := ⟨und59⟩
instance : Sca Try.prog 59 := ⟨_, und59, rfl⟩
instance : Inf Try.prog 59 1 8 (.map none) := ⟨by kernel_rfl⟩
instance : Agg Try.prog 61 := ⟨_, Try.underlying61, rfl⟩
instance : Stru Try.prog 61 [(0, 1)] := ⟨_, Try.underlying61, by kernel_rfl⟩
instance : Fld Try.prog 61 0 0 59 := ⟨_, _, Try.underlying61, rfl, rfl, rfl⟩
instance : Inf Try.prog 61 1 8 (.agg #[.map none]) := ⟨by kernel_rfl⟩
instance : Sca Try.prog 62 := ⟨_, Try.underlying62, rfl⟩
instance : Inf Try.prog 62 1 8 (.nilFunc) := ⟨by kernel_rfl⟩
theorem und63 : Try.prog.underlying 63 = some (.array 3 62) := by kernel_rfl
instance : Und Try.prog 63 (.array 3 62) := ⟨und63⟩
instance : Agg Try.prog 63 := ⟨_, und63, rfl⟩
instance : Inf Try.prog 63 3 24 (.agg #[.nilFunc, .nilFunc, .nilFunc]) := ⟨by kernel_rfl⟩
instance : Agg Try.prog 65 := ⟨_, Try.underlying65, rfl⟩
instance : Stru Try.prog 65 [(0, 1), (1, 1)] := ⟨_, Try.underlying65, by kernel_rfl⟩
instance : Fld Try.prog 65 0 0 3 := ⟨_, _, Try.underlying65, rfl, rfl, rfl⟩
instance : Fld Try.prog 65 1 1 3 := ⟨_, _, Try.underlying65, rfl, rfl, rfl⟩
instance : Inf Try.prog 65 2 16 (.agg #[.int .i64 0, .int .i64 0]) := ⟨by kernel_rfl⟩
instance : Sca Try.prog 68 := ⟨_, Try.underlying68, rfl⟩
instance : Inf Try.prog 68 1 8 (.nilFunc) := ⟨by kernel_rfl⟩
theorem und74 : Try.prog.underlying 74 = some (.int .u64) := by kernel_rfl
instance : Und Try.prog 74 (.int .u64) := ⟨und74⟩
instance : Sca Try.prog 74 := ⟨_, und74, rfl⟩
instance : Inf Try.prog 74 1 8 (.int .u64 0) := ⟨by kernel_rfl⟩
theorem und76 : Try.prog.underlying 76 = some (.int .i64) := by kernel_rfl
instance : Und Try.prog 76 (.int .i64) := ⟨und76⟩
instance : Sca Try.prog 76 := ⟨_, und76, rfl⟩
instance : Inf Try.prog 76 1 8 (.int .i64 0) := ⟨by kernel_rfl⟩
theorem und84 : Try.prog.underlying 84 = some (.int .u32) := by kernel_rfl
instance : Und Try.prog 84 (.int .u32) := ⟨und84⟩
instance : Sca Try.prog 84 := ⟨_, und84, rfl⟩
instance : Inf Try.prog 84 1 4 (.int .u32 0) := ⟨by kernel_rfl⟩
theorem und86 : Try.prog.underlying 86 = some (.int .u64) := by kernel_rfl
instance : Und Try.prog 86 (.int .u64) := ⟨und86⟩
instance : Sca Try.prog 86 := ⟨_, und86, rfl⟩
instance : Inf Try.prog 86 1 8 (.int .u64 0) := ⟨by kernel_rfl⟩
theorem und87 : Try.prog.underlying 87 = some (.int .u64) := by kernel_rfl
instance : Und Try.prog 87 (.int .u64) := ⟨und87⟩
instance : Sca Try.prog 87 := ⟨_, und87, rfl⟩
instance : Inf Try.prog 87 1 8 (.int .u64 0) := ⟨by kernel_rfl⟩
theorem und91 : Try.prog.underlying 91 = some (.pointer 3) := by kernel_rfl
instance : Und Try.prog 91 (.pointer 3) := ⟨und91⟩
instance : Sca Try.prog 91 := ⟨_, und91, rfl⟩
instance : Inf Try.prog 91 1 8 (.pointer none) := ⟨by kernel_rfl⟩
theorem und93 : Try.prog.underlying 93 = some (.pointer 87) := by kernel_rfl
instance : Und Try.prog 93 (.pointer 87) := ⟨und93⟩
instance : Sca Try.prog 93 := ⟨_, und93, rfl⟩
instance : Inf Try.prog 93 1 8 (.pointer none) := ⟨by kernel_rfl⟩
instance : Agg Try.prog 98 := ⟨_, Try.underlying98, rfl⟩
instance : Stru Try.prog 98 [(0, 1), (1, 1), (2, 1), (3, 1)] := ⟨_, Try.underlying98, by kernel_rfl⟩
instance : Fld Try.prog 98 0 0 17 := ⟨_, _, Try.underlying98, rfl, rfl, rfl⟩
instance : Fld Try.prog 98 1 1 17 := ⟨_, _, Try.underlying98, rfl, rfl, rfl⟩
instance : Fld Try.prog 98 2 2 17 := ⟨_, _, Try.underlying98, rfl, rfl, rfl⟩
instance : Fld Try.prog 98 3 3 9 := ⟨_, _, Try.underlying98, rfl, rfl, rfl⟩
instance : Inf Try.prog 98 4 40 (.agg #[.pointer none, .pointer none, .pointer none, .string ByteArray.empty]) := ⟨by kernel_rfl⟩
theorem und99 : Try.prog.underlying 99 = some (.array 0 16) := by kernel_rfl
instance : Und Try.prog 99 (.array 0 16) := ⟨und99⟩
instance : Agg Try.prog 99 := ⟨_, und99, rfl⟩
instance : Inf Try.prog 99 0 0 (.agg #[]) := ⟨by kernel_rfl⟩
instance : Agg Try.prog 101 := ⟨_, Try.underlying101, rfl⟩
instance : Stru Try.prog 101 [(0, 0)] := ⟨_, Try.underlying101, by kernel_rfl⟩
instance : Fld Try.prog 101 0 0 99 := ⟨_, _, Try.underlying101, rfl, rfl, rfl⟩
instance : Inf Try.prog 101 0 0 (.agg #[]) := ⟨by kernel_rfl⟩
theorem und102 : Try.prog.underlying 102 = some (.int .u8) := by kernel_rfl
instance : Und Try.prog 102 (.int .u8) := ⟨und102⟩
instance : Sca Try.prog 102 := ⟨_, und102, rfl⟩
instance : Inf Try.prog 102 1 1 (.int .u8 0) := ⟨by kernel_rfl⟩
theorem und103 : Try.prog.underlying 103 = some (.int .u8) := by kernel_rfl
instance : Und Try.prog 103 (.int .u8) := ⟨und103⟩
instance : Sca Try.prog 103 := ⟨_, und103, rfl⟩
instance : Inf Try.prog 103 1 1 (.int .u8 0) := ⟨by kernel_rfl⟩
instance : Sca Try.prog 104 := ⟨_, Try.underlying104, rfl⟩
instance : Inf Try.prog 104 1 8 (.nilFunc) := ⟨by kernel_rfl⟩
theorem und105 : Try.prog.underlying 105 = some (.pointer 5) := by kernel_rfl
instance : Und Try.prog 105 (.pointer 5) := ⟨und105⟩
instance : Sca Try.prog 105 := ⟨_, und105, rfl⟩
instance : Inf Try.prog 105 1 8 (.pointer none) := ⟨by kernel_rfl⟩
theorem und106 : Try.prog.underlying 106 = some (.int .i32) := by kernel_rfl
instance : Und Try.prog 106 (.int .i32) := ⟨und106⟩
instance : Sca Try.prog 106 := ⟨_, und106, rfl⟩
instance : Inf Try.prog 106 1 4 (.int .i32 0) := ⟨by kernel_rfl⟩
theorem und107 : Try.prog.underlying 107 = some (.int .i32) := by kernel_rfl
instance : Und Try.prog 107 (.int .i32) := ⟨und107⟩
instance : Sca Try.prog 107 := ⟨_, und107, rfl⟩
instance : Inf Try.prog 107 1 4 (.int .i32 0) := ⟨by kernel_rfl⟩
instance : Agg Try.prog 109 := ⟨_, Try.underlying109, rfl⟩
instance : Stru Try.prog 109 [(0, 1), (1, 1), (2, 1), (3, 1), (4, 1), (5, 1), (6, 1), (7, 1), (8, 1), (9, 1), (10, 1)] := ⟨_, Try.underlying109, by kernel_rfl⟩
instance : Fld Try.prog 109 0 0 12 := ⟨_, _, Try.underlying109, rfl, rfl, rfl⟩
instance : Fld Try.prog 109 1 1 12 := ⟨_, _, Try.underlying109, rfl, rfl, rfl⟩
instance : Fld Try.prog 109 2 2 84 := ⟨_, _, Try.underlying109, rfl, rfl, rfl⟩
instance : Fld Try.prog 109 3 3 102 := ⟨_, _, Try.underlying109, rfl, rfl, rfl⟩
instance : Fld Try.prog 109 4 4 5 := ⟨_, _, Try.underlying109, rfl, rfl, rfl⟩
instance : Fld Try.prog 109 5 5 5 := ⟨_, _, Try.underlying109, rfl, rfl, rfl⟩
instance : Fld Try.prog 109 6 6 103 := ⟨_, _, Try.underlying109, rfl, rfl, rfl⟩
instance : Fld Try.prog 109 7 7 104 := ⟨_, _, Try.underlying109, rfl, rfl, rfl⟩
instance : Fld Try.prog 109 8 8 105 := ⟨_, _, Try.underlying109, rfl, rfl, rfl⟩
instance : Fld Try.prog 109 9 9 106 := ⟨_, _, Try.underlying109, rfl, rfl, rfl⟩
instance : Fld Try.prog 109 10 10 107 := ⟨_, _, Try.underlying109, rfl, rfl, rfl⟩
instance : Inf Try.prog 109 11 48 (.agg #[.int .u64 0, .int .u64 0, .int .u32 0, .int .u8 0, .int .u8 0, .int .u8 0, .int .u8 0, .nilFunc, .pointer none, .int .i32 0, .int .i32 0]) := ⟨by kernel_rfl⟩
theorem mixed : Try.prog.follows .mixedOrders = true := by kernel_rfl
end Go.Proofs.Ytjglpmaedphbnaa
