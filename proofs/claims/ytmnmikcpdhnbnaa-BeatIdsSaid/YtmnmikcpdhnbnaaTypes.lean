import Derived.Test.YtmnmikcpdhnbnaaMore
import Derived.Test.YtmnmikcpdhnbnaaProg
namespace Go.Proofs.Ytmnmikcpdhnbnaa
open Go
instance : Inf Try.prog 0 1 0 (.tuple #[]) := ⟨by kernel_rfl⟩
instance : Sca Try.prog 1 := ⟨_, Try.underlying1, rfl⟩
instance : Inf Try.prog 1 1 8 (.nilFunc) := ⟨by kernel_rfl⟩
theorem und2 : Try.prog.underlying 2 = some (.int .i64) := by kernel_rfl
instance : Und Try.prog 2 (.int .i64) := ⟨und2⟩
instance : Sca Try.prog 2 := ⟨_, und2, rfl⟩
instance : Inf Try.prog 2 1 8 (.int .i64 0) := ⟨by kernel_rfl⟩
theorem und3 : Try.prog.underlying 3 = some (.int .i64) := by kernel_rfl
instance : Und Try.prog 3 (.int .i64) := ⟨und3⟩
instance : Sca Try.prog 3 := ⟨_, und3, rfl⟩
instance : Inf Try.prog 3 1 8 (.int .i64 0) := ⟨by kernel_rfl⟩
theorem und4 : Try.prog.underlying 4 = some (.bool) := by kernel_rfl
instance : Und Try.prog 4 (.bool) := ⟨und4⟩
instance : Sca Try.prog 4 := ⟨_, und4, rfl⟩
instance : Inf Try.prog 4 1 1 (.bool false) := ⟨by kernel_rfl⟩
theorem und5 : Try.prog.underlying 5 = some (.int .u8) := by kernel_rfl
instance : Und Try.prog 5 (.int .u8) := ⟨und5⟩
instance : Sca Try.prog 5 := ⟨_, und5, rfl⟩
instance : Inf Try.prog 5 1 1 (.int .u8 0) := ⟨by kernel_rfl⟩
theorem und6 : Try.prog.underlying 6 = some (.int .u8) := by kernel_rfl
instance : Und Try.prog 6 (.int .u8) := ⟨und6⟩
instance : Sca Try.prog 6 := ⟨_, und6, rfl⟩
instance : Inf Try.prog 6 1 1 (.int .u8 0) := ⟨by kernel_rfl⟩
instance : Agg Try.prog 8 := ⟨_, Try.underlying8, rfl⟩
instance : Stru Try.prog 8 [(0, 1), (1, 1), (2, 1), (3, 1)] := ⟨_, Try.underlying8, by kernel_rfl⟩
instance : Fld Try.prog 8 0 0 2 := ⟨_, _, Try.underlying8, rfl, rfl, rfl⟩
instance : Fld Try.prog 8 1 1 3 := ⟨_, _, Try.underlying8, rfl, rfl, rfl⟩
instance : Fld Try.prog 8 2 2 4 := ⟨_, _, Try.underlying8, rfl, rfl, rfl⟩
instance : Fld Try.prog 8 3 3 6 := ⟨_, _, Try.underlying8, rfl, rfl, rfl⟩
instance : Inf Try.prog 8 4 24 (.agg #[.int .i64 0, .int .i64 0, .bool false, .int .u8 0]) := ⟨by kernel_rfl⟩
theorem und9 : Try.prog.underlying 9 = some (.string) := by kernel_rfl
instance : Und Try.prog 9 (.string) := ⟨und9⟩
instance : Sca Try.prog 9 := ⟨_, und9, rfl⟩
instance : Inf Try.prog 9 1 16 (.string ByteArray.empty) := ⟨by kernel_rfl⟩
theorem und10 : Try.prog.underlying 10 = some (.string) := by kernel_rfl
instance : Und Try.prog 10 (.string) := ⟨und10⟩
instance : Sca Try.prog 10 := ⟨_, und10, rfl⟩
instance : Inf Try.prog 10 1 16 (.string ByteArray.empty) := ⟨by kernel_rfl⟩
theorem und11 : Try.prog.underlying 11 = some (.string) := by kernel_rfl
instance : Und Try.prog 11 (.string) := ⟨und11⟩
instance : Sca Try.prog 11 := ⟨_, und11, rfl⟩
instance : Inf Try.prog 11 1 16 (.string ByteArray.empty) := ⟨by kernel_rfl⟩
theorem und12 : Try.prog.underlying 12 = some (.int .u64) := by kernel_rfl
instance : Und Try.prog 12 (.int .u64) := ⟨und12⟩
instance : Sca Try.prog 12 := ⟨_, und12, rfl⟩
instance : Inf Try.prog 12 1 8 (.int .u64 0) := ⟨by kernel_rfl⟩
instance : Agg Try.prog 14 := ⟨_, Try.underlying14, rfl⟩
instance : Stru Try.prog 14 [(0, 1), (1, 1)] := ⟨_, Try.underlying14, by kernel_rfl⟩
instance : Fld Try.prog 14 0 0 9 := ⟨_, _, Try.underlying14, rfl, rfl, rfl⟩
instance : Fld Try.prog 14 1 1 12 := ⟨_, _, Try.underlying14, rfl, rfl, rfl⟩
instance : Inf Try.prog 14 2 24 (.agg #[.string ByteArray.empty, .int .u64 0]) := ⟨by kernel_rfl⟩
theorem und15 : Try.prog.underlying 15 = some (.pointer 86) := by kernel_rfl
instance : Und Try.prog 15 (.pointer 86) := ⟨und15⟩
instance : Sca Try.prog 15 := ⟨_, und15, rfl⟩
instance : Inf Try.prog 15 1 8 (.pointer none) := ⟨by kernel_rfl⟩
theorem und16 : Try.prog.underlying 16 = some (.pointer 89) := by kernel_rfl
instance : Und Try.prog 16 (.pointer 89) := ⟨und16⟩
instance : Sca Try.prog 16 := ⟨_, und16, rfl⟩
instance : Inf Try.prog 16 1 8 (.pointer none) := ⟨by kernel_rfl⟩
theorem und17 : Try.prog.underlying 17 = some (.pointer 98) := by kernel_rfl
instance : Und Try.prog 17 (.pointer 98) := ⟨und17⟩
instance : Sca Try.prog 17 := ⟨_, und17, rfl⟩
instance : Inf Try.prog 17 1 8 (.pointer none) := ⟨by kernel_rfl⟩
instance : Agg Try.prog 19 := ⟨_, Try.underlying19, rfl⟩
instance : Stru Try.prog 19 [(0, 1)] := ⟨_, Try.underlying19, by kernel_rfl⟩
instance : Fld Try.prog 19 0 0 17 := ⟨_, _, Try.underlying19, rfl, rfl, rfl⟩
instance : Inf Try.prog 19 1 8 (.agg #[.pointer none]) := ⟨by kernel_rfl⟩
theorem und22 : Try.prog.underlying 22 = some (.slice 31) := by kernel_rfl
instance : Und Try.prog 22 (.slice 31) := ⟨und22⟩
instance : Sca Try.prog 22 := ⟨_, und22, rfl⟩
instance : Inf Try.prog 22 1 24 (.slice none 0 0) := ⟨by kernel_rfl⟩
theorem und23 : Try.prog.underlying 23 = some (.pointer 48) := by kernel_rfl
instance : Und Try.prog 23 (.pointer 48) := ⟨und23⟩
instance : Sca Try.prog 23 := ⟨_, und23, rfl⟩
instance : Inf Try.prog 23 1 8 (.pointer none) := ⟨by kernel_rfl⟩
theorem und24 : Try.prog.underlying 24 = some (.int .i64) := by kernel_rfl
instance : Und Try.prog 24 (.int .i64) := ⟨und24⟩
instance : Sca Try.prog 24 := ⟨_, und24, rfl⟩
instance : Inf Try.prog 24 1 8 (.int .i64 0) := ⟨by kernel_rfl⟩
theorem und27 : Try.prog.underlying 27 = some (.pointer 51) := by kernel_rfl
instance : Und Try.prog 27 (.pointer 51) := ⟨und27⟩
instance : Sca Try.prog 27 := ⟨_, und27, rfl⟩
instance : Inf Try.prog 27 1 8 (.pointer none) := ⟨by kernel_rfl⟩
instance : Agg Try.prog 31 := ⟨_, Try.underlying31, rfl⟩
instance : Stru Try.prog 31 [(0, 1), (1, 1), (2, 1)] := ⟨_, Try.underlying31, by kernel_rfl⟩
instance : Fld Try.prog 31 0 0 3 := ⟨_, _, Try.underlying31, rfl, rfl, rfl⟩
instance : Fld Try.prog 31 1 1 3 := ⟨_, _, Try.underlying31, rfl, rfl, rfl⟩
instance : Fld Try.prog 31 2 2 3 := ⟨_, _, Try.underlying31, rfl, rfl, rfl⟩
instance : Inf Try.prog 31 3 24 (.agg #[.int .i64 0, .int .i64 0, .int .i64 0]) := ⟨by kernel_rfl⟩
instance : Sca Try.prog 33 := ⟨_, Try.underlying33, rfl⟩
instance : Inf Try.prog 33 1 8 (.nilFunc) := ⟨by kernel_rfl⟩
theorem und37 : Try.prog.underlying 37 = some (.slice 3) := by kernel_rfl
instance : Und Try.prog 37 (.slice 3) := ⟨und37⟩
instance : Sca Try.prog 37 := ⟨_, und37, rfl⟩
instance : Inf Try.prog 37 1 24 (.slice none 0 0) := ⟨by kernel_rfl⟩
theorem und42 : Try.prog.underlying 42 = some (.slice 5) := by kernel_rfl
instance : Und Try.prog 42 (.slice 5) := ⟨und42⟩
instance : Sca Try.prog 42 := ⟨_, und42, rfl⟩
instance : Inf Try.prog 42 1 24 (.slice none 0 0) := ⟨by kernel_rfl⟩
theorem und46 : Try.prog.underlying 46 = some (.map 3 3) := by kernel_rfl
instance : Und Try.prog 46 (.map 3 3) := ⟨und46⟩
instance : Sca Try.prog 46 := ⟨_, und46, rfl⟩
instance : Inf Try.prog 46 1 8 (.map none) := ⟨by kernel_rfl⟩
instance : Agg Try.prog 48 := ⟨_, Try.underlying48, rfl⟩
instance : Stru Try.prog 48 [(0, 1), (1, 1), (2, 1), (3, 1)] := ⟨_, Try.underlying48, by kernel_rfl⟩
instance : Fld Try.prog 48 0 0 3 := ⟨_, _, Try.underlying48, rfl, rfl, rfl⟩
instance : Fld Try.prog 48 1 1 3 := ⟨_, _, Try.underlying48, rfl, rfl, rfl⟩
instance : Fld Try.prog 48 2 2 46 := ⟨_, _, Try.underlying48, rfl, rfl, rfl⟩
instance : Fld Try.prog 48 3 3 3 := ⟨_, _, Try.underlying48, rfl, rfl, rfl⟩
instance : Inf Try.prog 48 4 32 (.agg #[.int .i64 0, .int .i64 0, .map none, .int .i64 0]) := ⟨by kernel_rfl⟩
theorem und49 : Try.prog.underlying 49 = some (.slice 54) := by kernel_rfl
instance : Und Try.prog 49 (.slice 54) := ⟨und49⟩
instance : Sca Try.prog 49 := ⟨_, und49, rfl⟩
instance : Inf Try.prog 49 1 24 (.slice none 0 0) := ⟨by kernel_rfl⟩
instance : Agg Try.prog 51 := ⟨_, Try.underlying51, rfl⟩
instance : Stru Try.prog 51 [(0, 1), (1, 1), (2, 1), (3, 1)] := ⟨_, Try.underlying51, by kernel_rfl⟩
instance : Fld Try.prog 51 0 0 3 := ⟨_, _, Try.underlying51, rfl, rfl, rfl⟩
instance : Fld Try.prog 51 1 1 3 := ⟨_, _, Try.underlying51, rfl, rfl, rfl⟩
instance : Fld Try.prog 51 2 2 3 := ⟨_, _, Try.underlying51, rfl, rfl, rfl⟩
instance : Fld Try.prog 51 3 3 49 := ⟨_, _, Try.underlying51, rfl, rfl, rfl⟩
instance : Inf Try.prog 51 4 48 (.agg #[.int .i64 0, .int .i64 0, .int .i64 0, .slice none 0 0]) := ⟨by kernel_rfl⟩
instance : Agg Try.prog 54 := ⟨_, Try.underlying54, rfl⟩
instance : Stru Try.prog 54 [(0, 1), (1, 1)] := ⟨_, Try.underlying54, by kernel_rfl⟩
instance : Fld Try.prog 54 0 0 3 := ⟨_, _, Try.underlying54, rfl, rfl, rfl⟩
instance : Fld Try.prog 54 1 1 3 := ⟨_, _, Try.underlying54, rfl, rfl, rfl⟩
instance : Inf Try.prog 54 2 16 (.agg #[.int .i64 0, .int .i64 0]) := ⟨by kernel_rfl⟩
instance : Sca Try.prog 57 := ⟨_, Try.underlying57, rfl⟩
instance : Inf Try.prog 57 1 8 (.nilFunc) := ⟨by kernel_rfl⟩
theorem und62 : Try.prog.underlying 62 = some (.int .u64) := by kernel_rfl
instance : Und Try.prog 62 (.int .u64) := ⟨und62⟩
instance : Sca Try.prog 62 := ⟨_, und62, rfl⟩
instance : Inf Try.prog 62 1 8 (.int .u64 0) := ⟨by kernel_rfl⟩
theorem und64 : Try.prog.underlying 64 = some (.int .i64) := by kernel_rfl
instance : Und Try.prog 64 (.int .i64) := ⟨und64⟩
instance : Sca Try.prog 64 := ⟨_, und64, rfl⟩
instance : Inf Try.prog 64 1 8 (.int .i64 0) := ⟨by kernel_rfl⟩
theorem und72 : Try.prog.underlying 72 = some (.int .u32) := by kernel_rfl
instance : Und Try.prog 72 (.int .u32) := ⟨und72⟩
instance : Sca Try.prog 72 := ⟨_, und72, rfl⟩
instance : Inf Try.prog 72 1 4 (.int .u32 0) := ⟨by kernel_rfl⟩
theorem und74 : Try.prog.underlying 74 = some (.int .u64) := by kernel_rfl
instance : Und Try.prog 74 (.int .u64) := ⟨und74⟩
instance : Sca Try.prog 74 := ⟨_, und74, rfl⟩
instance : Inf Try.prog 74 1 8 (.int .u64 0) := ⟨by kernel_rfl⟩
theorem und75 : Try.prog.underlying 75 = some (.int .u64) := by kernel_rfl
instance : Und Try.prog 75 (.int .u64) := ⟨und75⟩
instance : Sca Try.prog 75 := ⟨_, und75, rfl⟩
instance : Inf Try.prog 75 1 8 (.int .u64 0) := ⟨by kernel_rfl⟩
theorem und79 : Try.prog.underlying 79 = some (.pointer 3) := by kernel_rfl
instance : Und Try.prog 79 (.pointer 3) := ⟨und79⟩
instance : Sca Try.prog 79 := ⟨_, und79, rfl⟩
instance : Inf Try.prog 79 1 8 (.pointer none) := ⟨by kernel_rfl⟩
theorem und81 : Try.prog.underlying 81 = some (.pointer 75) := by kernel_rfl
instance : Und Try.prog 81 (.pointer 75) := ⟨und81⟩
instance : Sca Try.prog 81 := ⟨_, und81, rfl⟩
instance : Inf Try.prog 81 1 8 (.pointer none) := ⟨by kernel_rfl⟩
instance : Agg Try.prog 86 := ⟨_, Try.underlying86, rfl⟩
instance : Stru Try.prog 86 [(0, 1), (1, 1), (2, 1), (3, 1)] := ⟨_, Try.underlying86, by kernel_rfl⟩
instance : Fld Try.prog 86 0 0 17 := ⟨_, _, Try.underlying86, rfl, rfl, rfl⟩
instance : Fld Try.prog 86 1 1 17 := ⟨_, _, Try.underlying86, rfl, rfl, rfl⟩
instance : Fld Try.prog 86 2 2 17 := ⟨_, _, Try.underlying86, rfl, rfl, rfl⟩
instance : Fld Try.prog 86 3 3 9 := ⟨_, _, Try.underlying86, rfl, rfl, rfl⟩
instance : Inf Try.prog 86 4 40 (.agg #[.pointer none, .pointer none, .pointer none, .string ByteArray.empty]) := ⟨by kernel_rfl⟩
theorem und87 : Try.prog.underlying 87 = some (.array 0 16) := by kernel_rfl
instance : Und Try.prog 87 (.array 0 16) := ⟨und87⟩
instance : Agg Try.prog 87 := ⟨_, und87, rfl⟩
instance : Inf Try.prog 87 0 0 (.agg #[]) := ⟨by kernel_rfl⟩
instance : Agg Try.prog 89 := ⟨_, Try.underlying89, rfl⟩
instance : Stru Try.prog 89 [(0, 0)] := ⟨_, Try.underlying89, by kernel_rfl⟩
instance : Fld Try.prog 89 0 0 87 := ⟨_, _, Try.underlying89, rfl, rfl, rfl⟩
instance : Inf Try.prog 89 0 0 (.agg #[]) := ⟨by kernel_rfl⟩
theorem und91 : Try.prog.underlying 91 = some (.int .u8) := by kernel_rfl
instance : Und Try.prog 91 (.int .u8) := ⟨und91⟩
instance : Sca Try.prog 91 := ⟨_, und91, rfl⟩
instance : Inf Try.prog 91 1 1 (.int .u8 0) := ⟨by kernel_rfl⟩
theorem und92 : Try.prog.underlying 92 = some (.int .u8) := by kernel_rfl
instance : Und Try.prog 92 (.int .u8) := ⟨und92⟩
instance : Sca Try.prog 92 := ⟨_, und92, rfl⟩
instance : Inf Try.prog 92 1 1 (.int .u8 0) := ⟨by kernel_rfl⟩
instance : Sca Try.prog 93 := ⟨_, Try.underlying93, rfl⟩
instance : Inf Try.prog 93 1 8 (.nilFunc) := ⟨by kernel_rfl⟩
theorem und94 : Try.prog.underlying 94 = some (.pointer 5) := by kernel_rfl
instance : Und Try.prog 94 (.pointer 5) := ⟨und94⟩
instance : Sca Try.prog 94 := ⟨_, und94, rfl⟩
instance : Inf Try.prog 94 1 8 (.pointer none) := ⟨by kernel_rfl⟩
theorem und95 : Try.prog.underlying 95 = some (.int .i32) := by kernel_rfl
instance : Und Try.prog 95 (.int .i32) := ⟨und95⟩
instance : Sca Try.prog 95 := ⟨_, und95, rfl⟩
instance : Inf Try.prog 95 1 4 (.int .i32 0) := ⟨by kernel_rfl⟩
theorem und96 : Try.prog.underlying 96 = some (.int .i32) := by kernel_rfl
instance : Und Try.prog 96 (.int .i32) := ⟨und96⟩
instance : Sca Try.prog 96 := ⟨_, und96, rfl⟩
instance : Inf Try.prog 96 1 4 (.int .i32 0) := ⟨by kernel_rfl⟩
instance : Agg Try.prog 98 := ⟨_, Try.underlying98, rfl⟩
instance : Stru Try.prog 98 [(0, 1), (1, 1), (2, 1), (3, 1), (4, 1), (5, 1), (6, 1), (7, 1), (8, 1), (9, 1), (10, 1)] := ⟨_, Try.underlying98, by kernel_rfl⟩
instance : Fld Try.prog 98 0 0 12 := ⟨_, _, Try.underlying98, rfl, rfl, rfl⟩
instance : Fld Try.prog 98 1 1 12 := ⟨_, _, Try.underlying98, rfl, rfl, rfl⟩
instance : Fld Try.prog 98 2 2 72 := ⟨_, _, Try.underlying98, rfl, rfl, rfl⟩
instance : Fld Try.prog 98 3 3 91 := ⟨_, _, Try.underlying98, rfl, rfl, rfl⟩
instance : Fld Try.prog 98 4 4 5 := ⟨_, _, Try.underlying98, rfl, rfl, rfl⟩
instance : Fld Try.prog 98 5 5 5 := ⟨_, _, Try.underlying98, rfl, rfl, rfl⟩
instance : Fld Try.prog 98 6 6 92 := ⟨_, _, Try.underlying98, rfl, rfl, rfl⟩
instance : Fld Try.prog 98 7 7 93 := ⟨_, _, Try.underlying98, rfl, rfl, rfl⟩
instance : Fld Try.prog 98 8 8 94 := ⟨_, _, Try.underlying98, rfl, rfl, rfl⟩
instance : Fld Try.prog 98 9 9 95 := ⟨_, _, Try.underlying98, rfl, rfl, rfl⟩
instance : Fld Try.prog 98 10 10 96 := ⟨_, _, Try.underlying98, rfl, rfl, rfl⟩
instance : Inf Try.prog 98 11 48 (.agg #[.int .u64 0, .int .u64 0, .int .u32 0, .int .u8 0, .int .u8 0, .int .u8 0, .int .u8 0, .nilFunc, .pointer none, .int .i32 0, .int .i32 0]) := ⟨by kernel_rfl⟩
theorem mixed : Try.prog.follows .mixedOrders = true := by kernel_rfl
end Go.Proofs.Ytmnmikcpdhnbnaa
