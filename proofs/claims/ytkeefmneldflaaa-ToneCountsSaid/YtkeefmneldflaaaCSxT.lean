/- A part of the proof of ToneCountsSaid. -/
import Derived.Test.YtkeefmneldflaaaProg
import Derived.Test.YtkeefmneldflaaaCSxRegion
namespace Go.Proofs.Ytkeefmneldflaaa.T
open Go.SX Go.Proofs
theorem szA_1 : szA Try.prog 1 = some (1, false) := by kernel_rfl
theorem zr_1 : zr Try.prog 1 = some [.nilFunc] := by kernel_rfl
theorem szA_2 : szA Try.prog 2 = some (1, false) := by kernel_rfl
theorem zr_2 : zr Try.prog 2 = some [.int .i64 0] := by kernel_rfl
theorem szA_3 : szA Try.prog 3 = some (1, false) := by kernel_rfl
theorem zr_3 : zr Try.prog 3 = some [.int .i64 0] := by kernel_rfl
theorem szA_4 : szA Try.prog 4 = some (1, false) := by kernel_rfl
theorem zr_4 : zr Try.prog 4 = some [.bool false] := by kernel_rfl
theorem szA_5 : szA Try.prog 5 = some (1, false) := by kernel_rfl
theorem zr_5 : zr Try.prog 5 = some [.int .u8 0] := by kernel_rfl
theorem szA_6 : szA Try.prog 6 = some (1, false) := by kernel_rfl
theorem zr_6 : zr Try.prog 6 = some [.int .u8 0] := by kernel_rfl
theorem szA_7 : szA Try.prog 7 = some (4, true) := by kernel_rfl
theorem zr_7 : zr Try.prog 7 = some [.int .i64 0, .int .i64 0, .bool false, .int .u8 0] := by kernel_rfl
theorem lay_7 : lay Try.prog 7 = some [(0, 1, false), (1, 1, false), (2, 1, false), (3, 1, false)] := by kernel_rfl
theorem elA_7 : elA Try.prog 7 = none := by kernel_rfl
theorem szA_8 : szA Try.prog 8 = some (4, true) := by kernel_rfl
theorem zr_8 : zr Try.prog 8 = some [.int .i64 0, .int .i64 0, .bool false, .int .u8 0] := by kernel_rfl
theorem lay_8 : lay Try.prog 8 = some [(0, 1, false), (1, 1, false), (2, 1, false), (3, 1, false)] := by kernel_rfl
theorem elA_8 : elA Try.prog 8 = none := by kernel_rfl
theorem szA_9 : szA Try.prog 9 = some (1, false) := by kernel_rfl
theorem zr_9 : zr Try.prog 9 = some [.string ⟨#[]⟩] := by kernel_rfl
theorem szA_10 : szA Try.prog 10 = some (1, false) := by kernel_rfl
theorem zr_10 : zr Try.prog 10 = some [.string ⟨#[]⟩] := by kernel_rfl
theorem szA_11 : szA Try.prog 11 = some (1, false) := by kernel_rfl
theorem zr_11 : zr Try.prog 11 = some [.string ⟨#[]⟩] := by kernel_rfl
theorem szA_12 : szA Try.prog 12 = some (1, false) := by kernel_rfl
theorem zr_12 : zr Try.prog 12 = some [.int .u64 0] := by kernel_rfl
theorem szA_13 : szA Try.prog 13 = some (2, true) := by kernel_rfl
theorem zr_13 : zr Try.prog 13 = some [.string ⟨#[]⟩, .int .u64 0] := by kernel_rfl
theorem lay_13 : lay Try.prog 13 = some [(0, 1, false), (1, 1, false)] := by kernel_rfl
theorem elA_13 : elA Try.prog 13 = none := by kernel_rfl
theorem szA_14 : szA Try.prog 14 = some (2, true) := by kernel_rfl
theorem zr_14 : zr Try.prog 14 = some [.string ⟨#[]⟩, .int .u64 0] := by kernel_rfl
theorem lay_14 : lay Try.prog 14 = some [(0, 1, false), (1, 1, false)] := by kernel_rfl
theorem elA_14 : elA Try.prog 14 = none := by kernel_rfl
theorem szA_15 : szA Try.prog 15 = some (1, false) := by kernel_rfl
theorem zr_15 : zr Try.prog 15 = some [.pointer none] := by kernel_rfl
theorem szA_16 : szA Try.prog 16 = some (1, false) := by kernel_rfl
theorem zr_16 : zr Try.prog 16 = some [.pointer none] := by kernel_rfl
theorem szA_17 : szA Try.prog 17 = some (1, false) := by kernel_rfl
theorem zr_17 : zr Try.prog 17 = some [.pointer none] := by kernel_rfl
theorem szA_18 : szA Try.prog 18 = some (1, true) := by kernel_rfl
theorem zr_18 : zr Try.prog 18 = some [.pointer none] := by kernel_rfl
theorem lay_18 : lay Try.prog 18 = some [(0, 1, false)] := by kernel_rfl
theorem elA_18 : elA Try.prog 18 = none := by kernel_rfl
theorem szA_19 : szA Try.prog 19 = some (1, true) := by kernel_rfl
theorem zr_19 : zr Try.prog 19 = some [.pointer none] := by kernel_rfl
theorem lay_19 : lay Try.prog 19 = some [(0, 1, false)] := by kernel_rfl
theorem elA_19 : elA Try.prog 19 = none := by kernel_rfl
theorem szA_20 : szA Try.prog 20 = some (1, false) := by kernel_rfl
theorem zr_20 : zr Try.prog 20 = some [.nilIface] := by kernel_rfl
theorem szA_21 : szA Try.prog 21 = some (1, false) := by kernel_rfl
theorem zr_21 : zr Try.prog 21 = some [.int .i32 0] := by kernel_rfl
theorem szA_22 : szA Try.prog 22 = some (1, false) := by kernel_rfl
theorem zr_22 : zr Try.prog 22 = some [.slice none 0 0] := by kernel_rfl
theorem elS_22 : elS Try.prog 22 = some (41, 8, 10) := by kernel_rfl
theorem szA_23 : szA Try.prog 23 = some (1, false) := by kernel_rfl
theorem zr_23 : zr Try.prog 23 = some [.slice none 0 0] := by kernel_rfl
theorem elS_23 : elS Try.prog 23 = some (27, 2, 16) := by kernel_rfl
theorem szA_24 : szA Try.prog 24 = some (1, false) := by kernel_rfl
theorem zr_24 : zr Try.prog 24 = some [.nilFunc] := by kernel_rfl
theorem szA_25 : szA Try.prog 25 = some (1, false) := by kernel_rfl
theorem zr_25 : zr Try.prog 25 = some [.nilFunc] := by kernel_rfl
theorem szA_26 : szA Try.prog 26 = some (2, true) := by kernel_rfl
theorem zr_26 : zr Try.prog 26 = some [.int .i64 0, .int .i64 0] := by kernel_rfl
theorem lay_26 : lay Try.prog 26 = some [(0, 1, false), (1, 1, false)] := by kernel_rfl
theorem elA_26 : elA Try.prog 26 = none := by kernel_rfl
theorem szA_27 : szA Try.prog 27 = some (2, true) := by kernel_rfl
theorem zr_27 : zr Try.prog 27 = some [.int .i64 0, .int .i64 0] := by kernel_rfl
theorem lay_27 : lay Try.prog 27 = some [(0, 1, false), (1, 1, false)] := by kernel_rfl
theorem elA_27 : elA Try.prog 27 = none := by kernel_rfl
theorem szA_28 : szA Try.prog 28 = some (1, false) := by kernel_rfl
theorem zr_28 : zr Try.prog 28 = some [.nilFunc] := by kernel_rfl
theorem szA_29 : szA Try.prog 29 = some (1, false) := by kernel_rfl
theorem zr_29 : zr Try.prog 29 = some [.nilFunc] := by kernel_rfl
theorem szA_30 : szA Try.prog 30 = some (1, false) := by kernel_rfl
theorem zr_30 : zr Try.prog 30 = some [.slice none 0 0] := by kernel_rfl
theorem elS_30 : elS Try.prog 30 = some (34, 2, 16) := by kernel_rfl
theorem szA_31 : szA Try.prog 31 = some (1, false) := by kernel_rfl
theorem zr_31 : zr Try.prog 31 = some [.nilFunc] := by kernel_rfl
theorem szA_32 : szA Try.prog 32 = some (1, false) := by kernel_rfl
theorem zr_32 : zr Try.prog 32 = some [.nilFunc] := by kernel_rfl
theorem szA_33 : szA Try.prog 33 = some (2, true) := by kernel_rfl
theorem zr_33 : zr Try.prog 33 = some [.int .i64 0, .int .i64 0] := by kernel_rfl
theorem lay_33 : lay Try.prog 33 = some [(0, 1, false), (1, 1, false)] := by kernel_rfl
theorem elA_33 : elA Try.prog 33 = none := by kernel_rfl
theorem szA_34 : szA Try.prog 34 = some (2, true) := by kernel_rfl
theorem zr_34 : zr Try.prog 34 = some [.int .i64 0, .int .i64 0] := by kernel_rfl
theorem lay_34 : lay Try.prog 34 = some [(0, 1, false), (1, 1, false)] := by kernel_rfl
theorem elA_34 : elA Try.prog 34 = none := by kernel_rfl
theorem szA_35 : szA Try.prog 35 = some (1, false) := by kernel_rfl
theorem zr_35 : zr Try.prog 35 = some [.slice none 0 0] := by kernel_rfl
theorem elS_35 : elS Try.prog 35 = some (3, 1, 8) := by kernel_rfl
theorem szA_36 : szA Try.prog 36 = some (1, false) := by kernel_rfl
theorem zr_36 : zr Try.prog 36 = some [.nilFunc] := by kernel_rfl
theorem szA_37 : szA Try.prog 37 = some (1, false) := by kernel_rfl
theorem zr_37 : zr Try.prog 37 = some [.nilFunc] := by kernel_rfl
theorem szA_38 : szA Try.prog 38 = some (1, false) := by kernel_rfl
theorem zr_38 : zr Try.prog 38 = some [.int .u16 0] := by kernel_rfl
theorem szA_39 : szA Try.prog 39 = some (1, false) := by kernel_rfl
theorem zr_39 : zr Try.prog 39 = some [.int .u8 0] := by kernel_rfl
theorem szA_40 : szA Try.prog 40 = some (8, true) := by kernel_rfl
theorem zr_40 : zr Try.prog 40 = some [.int .u8 0, .int .u16 0, .int .u8 0, .bool false, .bool false, .int .u8 0, .bool false, .int .u8 0] := by kernel_rfl
theorem lay_40 : lay Try.prog 40 = some [(0, 1, false), (1, 1, false), (2, 1, false), (3, 1, false), (4, 1, false), (5, 1, false), (6, 1, false), (7, 1, false)] := by kernel_rfl
theorem elA_40 : elA Try.prog 40 = none := by kernel_rfl
theorem szA_41 : szA Try.prog 41 = some (8, true) := by kernel_rfl
theorem zr_41 : zr Try.prog 41 = some [.int .u8 0, .int .u16 0, .int .u8 0, .bool false, .bool false, .int .u8 0, .bool false, .int .u8 0] := by kernel_rfl
theorem lay_41 : lay Try.prog 41 = some [(0, 1, false), (1, 1, false), (2, 1, false), (3, 1, false), (4, 1, false), (5, 1, false), (6, 1, false), (7, 1, false)] := by kernel_rfl
theorem elA_41 : elA Try.prog 41 = none := by kernel_rfl
theorem szA_42 : szA Try.prog 42 = some (1, false) := by kernel_rfl
theorem zr_42 : zr Try.prog 42 = some [.nilFunc] := by kernel_rfl
theorem szA_43 : szA Try.prog 43 = some (1, false) := by kernel_rfl
theorem zr_43 : zr Try.prog 43 = some [.nilFunc] := by kernel_rfl
theorem szA_44 : szA Try.prog 44 = some (3, true) := by kernel_rfl
theorem zr_44 : zr Try.prog 44 = some [.int .i64 0, .int .i64 0, .bool false] := by kernel_rfl
theorem lay_44 : lay Try.prog 44 = some [(0, 1, false), (1, 1, false), (2, 1, false)] := by kernel_rfl
theorem elA_44 : elA Try.prog 44 = none := by kernel_rfl
theorem szA_45 : szA Try.prog 45 = some (3, true) := by kernel_rfl
theorem zr_45 : zr Try.prog 45 = some [.int .i64 0, .int .i64 0, .bool false] := by kernel_rfl
theorem lay_45 : lay Try.prog 45 = some [(0, 1, false), (1, 1, false), (2, 1, false)] := by kernel_rfl
theorem elA_45 : elA Try.prog 45 = none := by kernel_rfl
theorem szA_46 : szA Try.prog 46 = some (1, false) := by kernel_rfl
theorem zr_46 : zr Try.prog 46 = some [.nilFunc] := by kernel_rfl
theorem szA_47 : szA Try.prog 47 = some (1, false) := by kernel_rfl
theorem zr_47 : zr Try.prog 47 = some [.nilFunc] := by kernel_rfl
theorem szA_48 : szA Try.prog 48 = some (1, false) := by kernel_rfl
theorem zr_48 : zr Try.prog 48 = some [.slice none 0 0] := by kernel_rfl
theorem elS_48 : elS Try.prog 48 = some (4, 1, 1) := by kernel_rfl
theorem szA_49 : szA Try.prog 49 = some (1, false) := by kernel_rfl
theorem zr_49 : zr Try.prog 49 = some [.nilFunc] := by kernel_rfl
theorem szA_50 : szA Try.prog 50 = some (1, false) := by kernel_rfl
theorem zr_50 : zr Try.prog 50 = some [.nilFunc] := by kernel_rfl
theorem szA_51 : szA Try.prog 51 = some (1, false) := by kernel_rfl
theorem zr_51 : zr Try.prog 51 = some [.nilFunc] := by kernel_rfl
theorem szA_52 : szA Try.prog 52 = some (1, false) := by kernel_rfl
theorem zr_52 : zr Try.prog 52 = some [.nilFunc] := by kernel_rfl
theorem szA_53 : szA Try.prog 53 = some (1, false) := by kernel_rfl
theorem zr_53 : zr Try.prog 53 = some [.nilFunc] := by kernel_rfl
theorem szA_54 : szA Try.prog 54 = some (4, true) := by kernel_rfl
theorem zr_54 : zr Try.prog 54 = some [.pointer none, .pointer none, .pointer none, .string ⟨#[]⟩] := by kernel_rfl
theorem lay_54 : lay Try.prog 54 = some [(0, 1, false), (1, 1, false), (2, 1, false), (3, 1, false)] := by kernel_rfl
theorem elA_54 : elA Try.prog 54 = none := by kernel_rfl
theorem szA_55 : szA Try.prog 55 = some (4, true) := by kernel_rfl
theorem zr_55 : zr Try.prog 55 = some [.pointer none, .pointer none, .pointer none, .string ⟨#[]⟩] := by kernel_rfl
theorem lay_55 : lay Try.prog 55 = some [(0, 1, false), (1, 1, false), (2, 1, false), (3, 1, false)] := by kernel_rfl
theorem elA_55 : elA Try.prog 55 = none := by kernel_rfl
theorem szA_56 : szA Try.prog 56 = some (0, true) := by kernel_rfl
theorem zr_56 : zr Try.prog 56 = some [] := by kernel_rfl
theorem elA_56 : elA Try.prog 56 = some (0, 16, 1, false) := by kernel_rfl
theorem lay_56 : lay Try.prog 56 = none := by kernel_rfl
theorem szA_57 : szA Try.prog 57 = some (0, true) := by kernel_rfl
theorem zr_57 : zr Try.prog 57 = some [] := by kernel_rfl
theorem lay_57 : lay Try.prog 57 = some [(0, 0, true)] := by kernel_rfl
theorem elA_57 : elA Try.prog 57 = none := by kernel_rfl
theorem szA_58 : szA Try.prog 58 = some (0, true) := by kernel_rfl
theorem zr_58 : zr Try.prog 58 = some [] := by kernel_rfl
theorem lay_58 : lay Try.prog 58 = some [(0, 0, true)] := by kernel_rfl
theorem elA_58 : elA Try.prog 58 = none := by kernel_rfl
theorem szA_59 : szA Try.prog 59 = some (1, false) := by kernel_rfl
theorem zr_59 : zr Try.prog 59 = some [.nilFunc] := by kernel_rfl
theorem szA_60 : szA Try.prog 60 = some (1, false) := by kernel_rfl
theorem zr_60 : zr Try.prog 60 = some [.int .u32 0] := by kernel_rfl
theorem szA_61 : szA Try.prog 61 = some (1, false) := by kernel_rfl
theorem zr_61 : zr Try.prog 61 = some [.int .u8 0] := by kernel_rfl
theorem szA_62 : szA Try.prog 62 = some (1, false) := by kernel_rfl
theorem zr_62 : zr Try.prog 62 = some [.int .u8 0] := by kernel_rfl
theorem szA_63 : szA Try.prog 63 = some (1, false) := by kernel_rfl
theorem zr_63 : zr Try.prog 63 = some [.nilFunc] := by kernel_rfl
theorem szA_64 : szA Try.prog 64 = some (1, false) := by kernel_rfl
theorem zr_64 : zr Try.prog 64 = some [.pointer none] := by kernel_rfl
theorem szA_65 : szA Try.prog 65 = some (1, false) := by kernel_rfl
theorem zr_65 : zr Try.prog 65 = some [.int .i32 0] := by kernel_rfl
theorem szA_66 : szA Try.prog 66 = some (1, false) := by kernel_rfl
theorem zr_66 : zr Try.prog 66 = some [.int .i32 0] := by kernel_rfl
theorem szA_67 : szA Try.prog 67 = some (11, true) := by kernel_rfl
theorem zr_67 : zr Try.prog 67 = some [.int .u64 0, .int .u64 0, .int .u32 0, .int .u8 0, .int .u8 0, .int .u8 0, .int .u8 0, .nilFunc, .pointer none, .int .i32 0, .int .i32 0] := by kernel_rfl
theorem lay_67 : lay Try.prog 67 = some [(0, 1, false), (1, 1, false), (2, 1, false), (3, 1, false), (4, 1, false), (5, 1, false), (6, 1, false), (7, 1, false), (8, 1, false), (9, 1, false), (10, 1, false)] := by kernel_rfl
theorem elA_67 : elA Try.prog 67 = none := by kernel_rfl
theorem szA_68 : szA Try.prog 68 = some (11, true) := by kernel_rfl
theorem zr_68 : zr Try.prog 68 = some [.int .u64 0, .int .u64 0, .int .u32 0, .int .u8 0, .int .u8 0, .int .u8 0, .int .u8 0, .nilFunc, .pointer none, .int .i32 0, .int .i32 0] := by kernel_rfl
theorem lay_68 : lay Try.prog 68 = some [(0, 1, false), (1, 1, false), (2, 1, false), (3, 1, false), (4, 1, false), (5, 1, false), (6, 1, false), (7, 1, false), (8, 1, false), (9, 1, false), (10, 1, false)] := by kernel_rfl
theorem elA_68 : elA Try.prog 68 = none := by kernel_rfl
theorem szA_69 : szA Try.prog 69 = some (1, false) := by kernel_rfl
theorem zr_69 : zr Try.prog 69 = some [.pointer none] := by kernel_rfl
theorem callable_2 : callable Try.prog 2 = true := by kernel_rfl
theorem callable_3 : callable Try.prog 3 = true := by kernel_rfl
theorem callable_4 : callable Try.prog 4 = true := by kernel_rfl
theorem callable_5 : callable Try.prog 5 = true := by kernel_rfl
theorem callable_6 : callable Try.prog 6 = true := by kernel_rfl
theorem callable_7 : callable Try.prog 7 = true := by kernel_rfl
theorem callable_8 : callable Try.prog 8 = true := by kernel_rfl
theorem callable_9 : callable Try.prog 9 = true := by kernel_rfl
theorem callable_10 : callable Try.prog 10 = true := by kernel_rfl
theorem callable_11 : callable Try.prog 11 = true := by kernel_rfl
theorem callable_12 : callable Try.prog 12 = true := by kernel_rfl
theorem callable_13 : callable Try.prog 13 = true := by kernel_rfl
theorem callable_14 : callable Try.prog 14 = true := by kernel_rfl
theorem callable_15 : callable Try.prog 15 = true := by kernel_rfl
theorem callable_16 : callable Try.prog 16 = true := by kernel_rfl
theorem callable_17 : callable Try.prog 17 = true := by kernel_rfl
theorem callable_18 : callable Try.prog 18 = true := by kernel_rfl
theorem callable_19 : callable Try.prog 19 = true := by kernel_rfl
theorem callable_20 : callable Try.prog 20 = true := by kernel_rfl
theorem callable_21 : callable Try.prog 21 = true := by kernel_rfl
theorem callable_22 : callable Try.prog 22 = true := by kernel_rfl
theorem callable_23 : callable Try.prog 23 = true := by kernel_rfl
theorem callable_24 : callable Try.prog 24 = true := by kernel_rfl
theorem mixed : Try.prog.follows .mixedOrders = true := by kernel_rfl
end Go.Proofs.Ytkeefmneldflaaa.T
