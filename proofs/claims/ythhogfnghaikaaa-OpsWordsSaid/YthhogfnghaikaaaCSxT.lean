/- A part of the proof of OpsWordsSaid. -/
import Derived.Test.YthhogfnghaikaaaProg
import Derived.Test.YthhogfnghaikaaaCSxRegion
namespace Go.Proofs.Ythhogfnghaikaaa.T
open Go.SX Go.Proofs
theorem szA_1 : szA Try.prog 1 = some (1, false) := by kernel_rfl
theorem zr_1 : zr Try.prog 1 = some [.nilFunc] := by kernel_rfl
theorem szA_2 : szA Try.prog 2 = some (1, false) := by kernel_rfl
theorem zr_2 : zr Try.prog 2 = some [.int .i64 0] := by kernel_rfl
theorem szA_3 : szA Try.prog 3 = some (1, false) := by kernel_rfl
theorem zr_3 : zr Try.prog 3 = some [.int .i64 0] := by kernel_rfl
theorem szA_4 : szA Try.prog 4 = some (1, false) := by kernel_rfl
theorem zr_4 : zr Try.prog 4 = some [.bool false] := by kernel_rfl
theorem szA_5 : szA Try.prog 5 = some (1, false) := by kernel_rfl
theorem zr_5 : zr Try.prog 5 = some [.int .u8 0] := by kernel_rfl
theorem szA_6 : szA Try.prog 6 = some (1, false) := by kernel_rfl
theorem zr_6 : zr Try.prog 6 = some [.int .u8 0] := by kernel_rfl
theorem szA_7 : szA Try.prog 7 = some (4, true) := by kernel_rfl
theorem zr_7 : zr Try.prog 7 = some [.int .i64 0, .int .i64 0, .bool false, .int .u8 0] := by kernel_rfl
theorem lay_7 : lay Try.prog 7 = some [(0, 1, false), (1, 1, false), (2, 1, false), (3, 1, false)] := by kernel_rfl
theorem elA_7 : elA Try.prog 7 = none := by kernel_rfl
theorem szA_8 : szA Try.prog 8 = some (4, true) := by kernel_rfl
theorem zr_8 : zr Try.prog 8 = some [.int .i64 0, .int .i64 0, .bool false, .int .u8 0] := by kernel_rfl
theorem lay_8 : lay Try.prog 8 = some [(0, 1, false), (1, 1, false), (2, 1, false), (3, 1, false)] := by kernel_rfl
theorem elA_8 : elA Try.prog 8 = none := by kernel_rfl
theorem szA_9 : szA Try.prog 9 = some (1, false) := by kernel_rfl
theorem zr_9 : zr Try.prog 9 = some [.string ⟨#[]⟩] := by kernel_rfl
theorem szA_10 : szA Try.prog 10 = some (1, false) := by kernel_rfl
theorem zr_10 : zr Try.prog 10 = some [.string ⟨#[]⟩] := by kernel_rfl
theorem szA_11 : szA Try.prog 11 = some (1, false) := by kernel_rfl
theorem zr_11 : zr Try.prog 11 = some [.string ⟨#[]⟩] := by kernel_rfl
theorem szA_12 : szA Try.prog 12 = some (1, false) := by kernel_rfl
theorem zr_12 : zr Try.prog 12 = some [.int .u64 0] := by kernel_rfl
theorem szA_13 : szA Try.prog 13 = some (2, true) := by kernel_rfl
theorem zr_13 : zr Try.prog 13 = some [.string ⟨#[]⟩, .int .u64 0] := by kernel_rfl
theorem lay_13 : lay Try.prog 13 = some [(0, 1, false), (1, 1, false)] := by kernel_rfl
theorem elA_13 : elA Try.prog 13 = none := by kernel_rfl
theorem szA_14 : szA Try.prog 14 = some (2, true) := by kernel_rfl
theorem zr_14 : zr Try.prog 14 = some [.string ⟨#[]⟩, .int .u64 0] := by kernel_rfl
theorem lay_14 : lay Try.prog 14 = some [(0, 1, false), (1, 1, false)] := by kernel_rfl
theorem elA_14 : elA Try.prog 14 = none := by kernel_rfl
theorem szA_15 : szA Try.prog 15 = some (1, false) := by kernel_rfl
theorem zr_15 : zr Try.prog 15 = some [.pointer none] := by kernel_rfl
theorem szA_16 : szA Try.prog 16 = some (1, false) := by kernel_rfl
theorem zr_16 : zr Try.prog 16 = some [.pointer none] := by kernel_rfl
theorem szA_17 : szA Try.prog 17 = some (1, false) := by kernel_rfl
theorem zr_17 : zr Try.prog 17 = some [.pointer none] := by kernel_rfl
theorem szA_18 : szA Try.prog 18 = some (1, true) := by kernel_rfl
theorem zr_18 : zr Try.prog 18 = some [.pointer none] := by kernel_rfl
theorem lay_18 : lay Try.prog 18 = some [(0, 1, false)] := by kernel_rfl
theorem elA_18 : elA Try.prog 18 = none := by kernel_rfl
theorem szA_19 : szA Try.prog 19 = some (1, true) := by kernel_rfl
theorem zr_19 : zr Try.prog 19 = some [.pointer none] := by kernel_rfl
theorem lay_19 : lay Try.prog 19 = some [(0, 1, false)] := by kernel_rfl
theorem elA_19 : elA Try.prog 19 = none := by kernel_rfl
theorem szA_20 : szA Try.prog 20 = some (1, false) := by kernel_rfl
theorem zr_20 : zr Try.prog 20 = some [.nilIface] := by kernel_rfl
theorem szA_21 : szA Try.prog 21 = some (1, false) := by kernel_rfl
theorem zr_21 : zr Try.prog 21 = some [.int .i32 0] := by kernel_rfl
theorem szA_22 : szA Try.prog 22 = some (1, false) := by kernel_rfl
theorem zr_22 : zr Try.prog 22 = some [.nilFunc] := by kernel_rfl
theorem szA_23 : szA Try.prog 23 = some (1, false) := by kernel_rfl
theorem zr_23 : zr Try.prog 23 = some [.int .u8 0] := by kernel_rfl
theorem szA_24 : szA Try.prog 24 = some (1, false) := by kernel_rfl
theorem zr_24 : zr Try.prog 24 = some [.int .u16 0] := by kernel_rfl
theorem szA_25 : szA Try.prog 25 = some (6, true) := by kernel_rfl
theorem zr_25 : zr Try.prog 25 = some [.int .u8 0, .int .u8 0, .int .u8 0, .int .u8 0, .int .u8 0, .int .u16 0] := by kernel_rfl
theorem lay_25 : lay Try.prog 25 = some [(0, 1, false), (1, 1, false), (2, 1, false), (3, 1, false), (4, 1, false), (5, 1, false)] := by kernel_rfl
theorem elA_25 : elA Try.prog 25 = none := by kernel_rfl
theorem szA_26 : szA Try.prog 26 = some (6, true) := by kernel_rfl
theorem zr_26 : zr Try.prog 26 = some [.int .u8 0, .int .u8 0, .int .u8 0, .int .u8 0, .int .u8 0, .int .u16 0] := by kernel_rfl
theorem lay_26 : lay Try.prog 26 = some [(0, 1, false), (1, 1, false), (2, 1, false), (3, 1, false), (4, 1, false), (5, 1, false)] := by kernel_rfl
theorem elA_26 : elA Try.prog 26 = none := by kernel_rfl
theorem szA_28 : szA Try.prog 28 = some (1, false) := by kernel_rfl
theorem zr_28 : zr Try.prog 28 = some [.nilFunc] := by kernel_rfl
theorem szA_29 : szA Try.prog 29 = some (1, false) := by kernel_rfl
theorem zr_29 : zr Try.prog 29 = some [.int .i64 0] := by kernel_rfl
theorem szA_31 : szA Try.prog 31 = some (1, false) := by kernel_rfl
theorem zr_31 : zr Try.prog 31 = some [.nilFunc] := by kernel_rfl
theorem szA_32 : szA Try.prog 32 = some (1, false) := by kernel_rfl
theorem zr_32 : zr Try.prog 32 = some [.slice none 0 0] := by kernel_rfl
theorem elS_32 : elS Try.prog 32 = some (40, 5, 48) := by kernel_rfl
theorem szA_33 : szA Try.prog 33 = some (5, true) := by kernel_rfl
theorem zr_33 : zr Try.prog 33 = some [.int .u8 0, .int .u16 0, .int .u16 0, .string ⟨#[]⟩, .slice none 0 0] := by kernel_rfl
theorem lay_33 : lay Try.prog 33 = some [(0, 1, false), (1, 1, false), (2, 1, false), (3, 1, false), (4, 1, false)] := by kernel_rfl
theorem elA_33 : elA Try.prog 33 = none := by kernel_rfl
theorem szA_34 : szA Try.prog 34 = some (5, true) := by kernel_rfl
theorem zr_34 : zr Try.prog 34 = some [.int .u8 0, .int .u16 0, .int .u16 0, .string ⟨#[]⟩, .slice none 0 0] := by kernel_rfl
theorem lay_34 : lay Try.prog 34 = some [(0, 1, false), (1, 1, false), (2, 1, false), (3, 1, false), (4, 1, false)] := by kernel_rfl
theorem elA_34 : elA Try.prog 34 = none := by kernel_rfl
theorem szA_36 : szA Try.prog 36 = some (1, false) := by kernel_rfl
theorem zr_36 : zr Try.prog 36 = some [.nilFunc] := by kernel_rfl
theorem szA_37 : szA Try.prog 37 = some (1, false) := by kernel_rfl
theorem zr_37 : zr Try.prog 37 = some [.nilFunc] := by kernel_rfl
theorem szA_38 : szA Try.prog 38 = some (1, false) := by kernel_rfl
theorem zr_38 : zr Try.prog 38 = some [.nilFunc] := by kernel_rfl
theorem szA_39 : szA Try.prog 39 = some (5, true) := by kernel_rfl
theorem zr_39 : zr Try.prog 39 = some [.int .i64 0, .int .i64 0, .string ⟨#[]⟩, .nilFunc, .nilFunc] := by kernel_rfl
theorem lay_39 : lay Try.prog 39 = some [(0, 1, false), (1, 1, false), (2, 1, false), (3, 1, false), (4, 1, false)] := by kernel_rfl
theorem elA_39 : elA Try.prog 39 = none := by kernel_rfl
theorem szA_40 : szA Try.prog 40 = some (5, true) := by kernel_rfl
theorem zr_40 : zr Try.prog 40 = some [.int .i64 0, .int .i64 0, .string ⟨#[]⟩, .nilFunc, .nilFunc] := by kernel_rfl
theorem lay_40 : lay Try.prog 40 = some [(0, 1, false), (1, 1, false), (2, 1, false), (3, 1, false), (4, 1, false)] := by kernel_rfl
theorem elA_40 : elA Try.prog 40 = none := by kernel_rfl
theorem szA_41 : szA Try.prog 41 = some (1, false) := by kernel_rfl
theorem zr_41 : zr Try.prog 41 = some [.pointer none] := by kernel_rfl
theorem szA_42 : szA Try.prog 42 = some (1, false) := by kernel_rfl
theorem zr_42 : zr Try.prog 42 = some [.slice none 0 0] := by kernel_rfl
theorem elS_42 : elS Try.prog 42 = some (34, 5, 48) := by kernel_rfl
theorem szA_43 : szA Try.prog 43 = some (1, false) := by kernel_rfl
theorem zr_43 : zr Try.prog 43 = some [.nilFunc] := by kernel_rfl
theorem szA_44 : szA Try.prog 44 = some (1, false) := by kernel_rfl
theorem zr_44 : zr Try.prog 44 = some [.nilFunc] := by kernel_rfl
theorem szA_45 : szA Try.prog 45 = some (4, true) := by kernel_rfl
theorem zr_45 : zr Try.prog 45 = some [.pointer none, .pointer none, .pointer none, .string ⟨#[]⟩] := by kernel_rfl
theorem lay_45 : lay Try.prog 45 = some [(0, 1, false), (1, 1, false), (2, 1, false), (3, 1, false)] := by kernel_rfl
theorem elA_45 : elA Try.prog 45 = none := by kernel_rfl
theorem szA_46 : szA Try.prog 46 = some (4, true) := by kernel_rfl
theorem zr_46 : zr Try.prog 46 = some [.pointer none, .pointer none, .pointer none, .string ⟨#[]⟩] := by kernel_rfl
theorem lay_46 : lay Try.prog 46 = some [(0, 1, false), (1, 1, false), (2, 1, false), (3, 1, false)] := by kernel_rfl
theorem elA_46 : elA Try.prog 46 = none := by kernel_rfl
theorem szA_47 : szA Try.prog 47 = some (0, true) := by kernel_rfl
theorem zr_47 : zr Try.prog 47 = some [] := by kernel_rfl
theorem elA_47 : elA Try.prog 47 = some (0, 16, 1, false) := by kernel_rfl
theorem lay_47 : lay Try.prog 47 = none := by kernel_rfl
theorem szA_48 : szA Try.prog 48 = some (0, true) := by kernel_rfl
theorem zr_48 : zr Try.prog 48 = some [] := by kernel_rfl
theorem lay_48 : lay Try.prog 48 = some [(0, 0, true)] := by kernel_rfl
theorem elA_48 : elA Try.prog 48 = none := by kernel_rfl
theorem szA_49 : szA Try.prog 49 = some (0, true) := by kernel_rfl
theorem zr_49 : zr Try.prog 49 = some [] := by kernel_rfl
theorem lay_49 : lay Try.prog 49 = some [(0, 0, true)] := by kernel_rfl
theorem elA_49 : elA Try.prog 49 = none := by kernel_rfl
theorem szA_50 : szA Try.prog 50 = some (1, false) := by kernel_rfl
theorem zr_50 : zr Try.prog 50 = some [.nilFunc] := by kernel_rfl
theorem szA_51 : szA Try.prog 51 = some (1, false) := by kernel_rfl
theorem zr_51 : zr Try.prog 51 = some [.int .u32 0] := by kernel_rfl
theorem szA_52 : szA Try.prog 52 = some (1, false) := by kernel_rfl
theorem zr_52 : zr Try.prog 52 = some [.int .u8 0] := by kernel_rfl
theorem szA_53 : szA Try.prog 53 = some (1, false) := by kernel_rfl
theorem zr_53 : zr Try.prog 53 = some [.int .u8 0] := by kernel_rfl
theorem szA_54 : szA Try.prog 54 = some (1, false) := by kernel_rfl
theorem zr_54 : zr Try.prog 54 = some [.nilFunc] := by kernel_rfl
theorem szA_55 : szA Try.prog 55 = some (1, false) := by kernel_rfl
theorem zr_55 : zr Try.prog 55 = some [.pointer none] := by kernel_rfl
theorem szA_56 : szA Try.prog 56 = some (1, false) := by kernel_rfl
theorem zr_56 : zr Try.prog 56 = some [.int .i32 0] := by kernel_rfl
theorem szA_57 : szA Try.prog 57 = some (1, false) := by kernel_rfl
theorem zr_57 : zr Try.prog 57 = some [.int .i32 0] := by kernel_rfl
theorem szA_58 : szA Try.prog 58 = some (11, true) := by kernel_rfl
theorem zr_58 : zr Try.prog 58 = some [.int .u64 0, .int .u64 0, .int .u32 0, .int .u8 0, .int .u8 0, .int .u8 0, .int .u8 0, .nilFunc, .pointer none, .int .i32 0, .int .i32 0] := by kernel_rfl
theorem lay_58 : lay Try.prog 58 = some [(0, 1, false), (1, 1, false), (2, 1, false), (3, 1, false), (4, 1, false), (5, 1, false), (6, 1, false), (7, 1, false), (8, 1, false), (9, 1, false), (10, 1, false)] := by kernel_rfl
theorem elA_58 : elA Try.prog 58 = none := by kernel_rfl
theorem szA_59 : szA Try.prog 59 = some (11, true) := by kernel_rfl
theorem zr_59 : zr Try.prog 59 = some [.int .u64 0, .int .u64 0, .int .u32 0, .int .u8 0, .int .u8 0, .int .u8 0, .int .u8 0, .nilFunc, .pointer none, .int .i32 0, .int .i32 0] := by kernel_rfl
theorem lay_59 : lay Try.prog 59 = some [(0, 1, false), (1, 1, false), (2, 1, false), (3, 1, false), (4, 1, false), (5, 1, false), (6, 1, false), (7, 1, false), (8, 1, false), (9, 1, false), (10, 1, false)] := by kernel_rfl
theorem elA_59 : elA Try.prog 59 = none := by kernel_rfl
theorem szA_60 : szA Try.prog 60 = some (1, false) := by kernel_rfl
theorem zr_60 : zr Try.prog 60 = some [.pointer none] := by kernel_rfl
theorem callable_2 : callable Try.prog 2 = true := by kernel_rfl
theorem callable_3 : callable Try.prog 3 = true := by kernel_rfl
theorem callable_4 : callable Try.prog 4 = true := by kernel_rfl
theorem callable_5 : callable Try.prog 5 = true := by kernel_rfl
theorem callable_6 : callable Try.prog 6 = true := by kernel_rfl
theorem callable_7 : callable Try.prog 7 = true := by kernel_rfl
theorem callable_8 : callable Try.prog 8 = true := by kernel_rfl
theorem callable_9 : callable Try.prog 9 = true := by kernel_rfl
theorem callable_10 : callable Try.prog 10 = true := by kernel_rfl
theorem callable_11 : callable Try.prog 11 = true := by kernel_rfl
theorem callable_12 : callable Try.prog 12 = true := by kernel_rfl
theorem callable_13 : callable Try.prog 13 = true := by kernel_rfl
theorem callable_14 : callable Try.prog 14 = true := by kernel_rfl
theorem callable_15 : callable Try.prog 15 = true := by kernel_rfl
theorem callable_16 : callable Try.prog 16 = true := by kernel_rfl
theorem callable_17 : callable Try.prog 17 = true := by kernel_rfl
theorem callable_18 : callable Try.prog 18 = true := by kernel_rfl
theorem mixed : Try.prog.follows .mixedOrders = true := by kernel_rfl
end Go.Proofs.Ythhogfnghaikaaa.T
