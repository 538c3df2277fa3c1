/- A part of the proof of SpriteExactCardSaid. -/
import Derived.Test.YtcakdalajafmoaaDoorProg
import Derived.Test.YtcakdalajafmoaaDoorCSxRegion
namespace Go.Proofs.YtcakdalajafmoaaDoor.T
open Go.SX Go.Proofs
theorem szA_1 : szA Tryd.prog 1 = some (1, false) := by kernel_rfl
theorem zr_1 : zr Tryd.prog 1 = some [.nilFunc] := by kernel_rfl
theorem szA_2 : szA Tryd.prog 2 = some (1, false) := by kernel_rfl
theorem zr_2 : zr Tryd.prog 2 = some [.int .i64 0] := by kernel_rfl
theorem szA_3 : szA Tryd.prog 3 = some (1, false) := by kernel_rfl
theorem zr_3 : zr Tryd.prog 3 = some [.int .i64 0] := by kernel_rfl
theorem szA_4 : szA Tryd.prog 4 = some (1, false) := by kernel_rfl
theorem zr_4 : zr Tryd.prog 4 = some [.bool false] := by kernel_rfl
theorem szA_5 : szA Tryd.prog 5 = some (1, false) := by kernel_rfl
theorem zr_5 : zr Tryd.prog 5 = some [.int .u8 0] := by kernel_rfl
theorem szA_6 : szA Tryd.prog 6 = some (1, false) := by kernel_rfl
theorem zr_6 : zr Tryd.prog 6 = some [.int .u8 0] := by kernel_rfl
theorem szA_7 : szA Tryd.prog 7 = some (4, true) := by kernel_rfl
theorem zr_7 : zr Tryd.prog 7 = some [.int .i64 0, .int .i64 0, .bool false, .int .u8 0] := by kernel_rfl
theorem lay_7 : lay Tryd.prog 7 = some [(0, 1, false), (1, 1, false), (2, 1, false), (3, 1, false)] := by kernel_rfl
theorem elA_7 : elA Tryd.prog 7 = none := by kernel_rfl
theorem szA_8 : szA Tryd.prog 8 = some (4, true) := by kernel_rfl
theorem zr_8 : zr Tryd.prog 8 = some [.int .i64 0, .int .i64 0, .bool false, .int .u8 0] := by kernel_rfl
theorem lay_8 : lay Tryd.prog 8 = some [(0, 1, false), (1, 1, false), (2, 1, false), (3, 1, false)] := by kernel_rfl
theorem elA_8 : elA Tryd.prog 8 = none := by kernel_rfl
theorem szA_9 : szA Tryd.prog 9 = some (1, false) := by kernel_rfl
theorem zr_9 : zr Tryd.prog 9 = some [.string ⟨#[]⟩] := by kernel_rfl
theorem szA_10 : szA Tryd.prog 10 = some (1, false) := by kernel_rfl
theorem zr_10 : zr Tryd.prog 10 = some [.string ⟨#[]⟩] := by kernel_rfl
theorem szA_11 : szA Tryd.prog 11 = some (1, false) := by kernel_rfl
theorem zr_11 : zr Tryd.prog 11 = some [.string ⟨#[]⟩] := by kernel_rfl
theorem szA_12 : szA Tryd.prog 12 = some (1, false) := by kernel_rfl
theorem zr_12 : zr Tryd.prog 12 = some [.int .u64 0] := by kernel_rfl
theorem szA_13 : szA Tryd.prog 13 = some (2, true) := by kernel_rfl
theorem zr_13 : zr Tryd.prog 13 = some [.string ⟨#[]⟩, .int .u64 0] := by kernel_rfl
theorem lay_13 : lay Tryd.prog 13 = some [(0, 1, false), (1, 1, false)] := by kernel_rfl
theorem elA_13 : elA Tryd.prog 13 = none := by kernel_rfl
theorem szA_14 : szA Tryd.prog 14 = some (2, true) := by kernel_rfl
theorem zr_14 : zr Tryd.prog 14 = some [.string ⟨#[]⟩, .int .u64 0] := by kernel_rfl
theorem lay_14 : lay Tryd.prog 14 = some [(0, 1, false), (1, 1, false)] := by kernel_rfl
theorem elA_14 : elA Tryd.prog 14 = none := by kernel_rfl
theorem szA_15 : szA Tryd.prog 15 = some (1, false) := by kernel_rfl
theorem zr_15 : zr Tryd.prog 15 = some [.pointer none] := by kernel_rfl
theorem szA_16 : szA Tryd.prog 16 = some (1, false) := by kernel_rfl
theorem zr_16 : zr Tryd.prog 16 = some [.pointer none] := by kernel_rfl
theorem szA_17 : szA Tryd.prog 17 = some (1, false) := by kernel_rfl
theorem zr_17 : zr Tryd.prog 17 = some [.pointer none] := by kernel_rfl
theorem szA_18 : szA Tryd.prog 18 = some (1, true) := by kernel_rfl
theorem zr_18 : zr Tryd.prog 18 = some [.pointer none] := by kernel_rfl
theorem lay_18 : lay Tryd.prog 18 = some [(0, 1, false)] := by kernel_rfl
theorem elA_18 : elA Tryd.prog 18 = none := by kernel_rfl
theorem szA_19 : szA Tryd.prog 19 = some (1, true) := by kernel_rfl
theorem zr_19 : zr Tryd.prog 19 = some [.pointer none] := by kernel_rfl
theorem lay_19 : lay Tryd.prog 19 = some [(0, 1, false)] := by kernel_rfl
theorem elA_19 : elA Tryd.prog 19 = none := by kernel_rfl
theorem szA_20 : szA Tryd.prog 20 = some (1, false) := by kernel_rfl
theorem zr_20 : zr Tryd.prog 20 = some [.nilIface] := by kernel_rfl
theorem szA_21 : szA Tryd.prog 21 = some (1, false) := by kernel_rfl
theorem zr_21 : zr Tryd.prog 21 = some [.int .i32 0] := by kernel_rfl
theorem szA_22 : szA Tryd.prog 22 = some (5, true) := by kernel_rfl
theorem zr_22 : zr Tryd.prog 22 = some [.int .u8 0, .int .u8 0, .int .u8 0, .int .u8 0, .int .u8 0] := by kernel_rfl
theorem elA_22 : elA Tryd.prog 22 = some (5, 5, 1, false) := by kernel_rfl
theorem lay_22 : lay Tryd.prog 22 = none := by kernel_rfl
theorem szA_23 : szA Tryd.prog 23 = some (1, false) := by kernel_rfl
theorem zr_23 : zr Tryd.prog 23 = some [.nilFunc] := by kernel_rfl
theorem szA_24 : szA Tryd.prog 24 = some (1, false) := by kernel_rfl
theorem zr_24 : zr Tryd.prog 24 = some [.nilFunc] := by kernel_rfl
theorem szA_25 : szA Tryd.prog 25 = some (1, false) := by kernel_rfl
theorem zr_25 : zr Tryd.prog 25 = some [.slice none 0 0] := by kernel_rfl
theorem elS_25 : elS Tryd.prog 25 = some (5, 1, 1) := by kernel_rfl
theorem szA_26 : szA Tryd.prog 26 = some (1, false) := by kernel_rfl
theorem zr_26 : zr Tryd.prog 26 = some [.slice none 0 0] := by kernel_rfl
theorem elS_26 : elS Tryd.prog 26 = some (28, 3, 32) := by kernel_rfl
theorem szA_27 : szA Tryd.prog 27 = some (3, true) := by kernel_rfl
theorem zr_27 : zr Tryd.prog 27 = some [.int .u8 0, .int .u8 0, .slice none 0 0] := by kernel_rfl
theorem lay_27 : lay Tryd.prog 27 = some [(0, 1, false), (1, 1, false), (2, 1, false)] := by kernel_rfl
theorem elA_27 : elA Tryd.prog 27 = none := by kernel_rfl
theorem szA_28 : szA Tryd.prog 28 = some (3, true) := by kernel_rfl
theorem zr_28 : zr Tryd.prog 28 = some [.int .u8 0, .int .u8 0, .slice none 0 0] := by kernel_rfl
theorem lay_28 : lay Tryd.prog 28 = some [(0, 1, false), (1, 1, false), (2, 1, false)] := by kernel_rfl
theorem elA_28 : elA Tryd.prog 28 = none := by kernel_rfl
theorem szA_29 : szA Tryd.prog 29 = some (1, false) := by kernel_rfl
theorem zr_29 : zr Tryd.prog 29 = some [.nilFunc] := by kernel_rfl
theorem szA_30 : szA Tryd.prog 30 = some (1, false) := by kernel_rfl
theorem zr_30 : zr Tryd.prog 30 = some [.int .i64 0] := by kernel_rfl
theorem szA_32 : szA Tryd.prog 32 = some (1, false) := by kernel_rfl
theorem zr_32 : zr Tryd.prog 32 = some [.nilFunc] := by kernel_rfl
theorem szA_33 : szA Tryd.prog 33 = some (1, false) := by kernel_rfl
theorem zr_33 : zr Tryd.prog 33 = some [.nilFunc] := by kernel_rfl
theorem szA_34 : szA Tryd.prog 34 = some (1, false) := by kernel_rfl
theorem zr_34 : zr Tryd.prog 34 = some [.nilFunc] := by kernel_rfl
theorem szA_36 : szA Tryd.prog 36 = some (1, false) := by kernel_rfl
theorem zr_36 : zr Tryd.prog 36 = some [.nilFunc] := by kernel_rfl
theorem szA_38 : szA Tryd.prog 38 = some (1, false) := by kernel_rfl
theorem zr_38 : zr Tryd.prog 38 = some [.nilFunc] := by kernel_rfl
theorem szA_39 : szA Tryd.prog 39 = some (1, false) := by kernel_rfl
theorem zr_39 : zr Tryd.prog 39 = some [.nilFunc] := by kernel_rfl
theorem szA_40 : szA Tryd.prog 40 = some (80, true) := by kernel_rfl
theorem elA_40 : elA Tryd.prog 40 = some (16, 22, 5, true) := by kernel_rfl
theorem lay_40 : lay Tryd.prog 40 = none := by kernel_rfl
theorem szA_41 : szA Tryd.prog 41 = some (1, false) := by kernel_rfl
theorem zr_41 : zr Tryd.prog 41 = some [.nilFunc] := by kernel_rfl
theorem szA_42 : szA Tryd.prog 42 = some (1, false) := by kernel_rfl
theorem zr_42 : zr Tryd.prog 42 = some [.nilFunc] := by kernel_rfl
theorem szA_43 : szA Tryd.prog 43 = some (1, false) := by kernel_rfl
theorem zr_43 : zr Tryd.prog 43 = some [.nilFunc] := by kernel_rfl
theorem szA_44 : szA Tryd.prog 44 = some (1, false) := by kernel_rfl
theorem zr_44 : zr Tryd.prog 44 = some [.nilFunc] := by kernel_rfl
theorem szA_45 : szA Tryd.prog 45 = some (1, false) := by kernel_rfl
theorem zr_45 : zr Tryd.prog 45 = some [.nilFunc] := by kernel_rfl
theorem szA_46 : szA Tryd.prog 46 = some (4, true) := by kernel_rfl
theorem zr_46 : zr Tryd.prog 46 = some [.pointer none, .pointer none, .pointer none, .string ⟨#[]⟩] := by kernel_rfl
theorem lay_46 : lay Tryd.prog 46 = some [(0, 1, false), (1, 1, false), (2, 1, false), (3, 1, false)] := by kernel_rfl
theorem elA_46 : elA Tryd.prog 46 = none := by kernel_rfl
theorem szA_47 : szA Tryd.prog 47 = some (4, true) := by kernel_rfl
theorem zr_47 : zr Tryd.prog 47 = some [.pointer none, .pointer none, .pointer none, .string ⟨#[]⟩] := by kernel_rfl
theorem lay_47 : lay Tryd.prog 47 = some [(0, 1, false), (1, 1, false), (2, 1, false), (3, 1, false)] := by kernel_rfl
theorem elA_47 : elA Tryd.prog 47 = none := by kernel_rfl
theorem szA_48 : szA Tryd.prog 48 = some (0, true) := by kernel_rfl
theorem zr_48 : zr Tryd.prog 48 = some [] := by kernel_rfl
theorem elA_48 : elA Tryd.prog 48 = some (0, 16, 1, false) := by kernel_rfl
theorem lay_48 : lay Tryd.prog 48 = none := by kernel_rfl
theorem szA_49 : szA Tryd.prog 49 = some (0, true) := by kernel_rfl
theorem zr_49 : zr Tryd.prog 49 = some [] := by kernel_rfl
theorem lay_49 : lay Tryd.prog 49 = some [(0, 0, true)] := by kernel_rfl
theorem elA_49 : elA Tryd.prog 49 = none := by kernel_rfl
theorem szA_50 : szA Tryd.prog 50 = some (0, true) := by kernel_rfl
theorem zr_50 : zr Tryd.prog 50 = some [] := by kernel_rfl
theorem lay_50 : lay Tryd.prog 50 = some [(0, 0, true)] := by kernel_rfl
theorem elA_50 : elA Tryd.prog 50 = none := by kernel_rfl
theorem szA_51 : szA Tryd.prog 51 = some (1, false) := by kernel_rfl
theorem zr_51 : zr Tryd.prog 51 = some [.nilFunc] := by kernel_rfl
theorem szA_52 : szA Tryd.prog 52 = some (1, false) := by kernel_rfl
theorem zr_52 : zr Tryd.prog 52 = some [.int .u32 0] := by kernel_rfl
theorem szA_53 : szA Tryd.prog 53 = some (1, false) := by kernel_rfl
theorem zr_53 : zr Tryd.prog 53 = some [.int .u8 0] := by kernel_rfl
theorem szA_54 : szA Tryd.prog 54 = some (1, false) := by kernel_rfl
theorem zr_54 : zr Tryd.prog 54 = some [.int .u8 0] := by kernel_rfl
theorem szA_55 : szA Tryd.prog 55 = some (1, false) := by kernel_rfl
theorem zr_55 : zr Tryd.prog 55 = some [.nilFunc] := by kernel_rfl
theorem szA_56 : szA Tryd.prog 56 = some (1, false) := by kernel_rfl
theorem zr_56 : zr Tryd.prog 56 = some [.pointer none] := by kernel_rfl
theorem szA_57 : szA Tryd.prog 57 = some (1, false) := by kernel_rfl
theorem zr_57 : zr Tryd.prog 57 = some [.int .i32 0] := by kernel_rfl
theorem szA_58 : szA Tryd.prog 58 = some (1, false) := by kernel_rfl
theorem zr_58 : zr Tryd.prog 58 = some [.int .i32 0] := by kernel_rfl
theorem szA_59 : szA Tryd.prog 59 = some (11, true) := by kernel_rfl
theorem zr_59 : zr Tryd.prog 59 = some [.int .u64 0, .int .u64 0, .int .u32 0, .int .u8 0, .int .u8 0, .int .u8 0, .int .u8 0, .nilFunc, .pointer none, .int .i32 0, .int .i32 0] := by kernel_rfl
theorem lay_59 : lay Tryd.prog 59 = some [(0, 1, false), (1, 1, false), (2, 1, false), (3, 1, false), (4, 1, false), (5, 1, false), (6, 1, false), (7, 1, false), (8, 1, false), (9, 1, false), (10, 1, false)] := by kernel_rfl
theorem elA_59 : elA Tryd.prog 59 = none := by kernel_rfl
theorem szA_60 : szA Tryd.prog 60 = some (11, true) := by kernel_rfl
theorem zr_60 : zr Tryd.prog 60 = some [.int .u64 0, .int .u64 0, .int .u32 0, .int .u8 0, .int .u8 0, .int .u8 0, .int .u8 0, .nilFunc, .pointer none, .int .i32 0, .int .i32 0] := by kernel_rfl
theorem lay_60 : lay Tryd.prog 60 = some [(0, 1, false), (1, 1, false), (2, 1, false), (3, 1, false), (4, 1, false), (5, 1, false), (6, 1, false), (7, 1, false), (8, 1, false), (9, 1, false), (10, 1, false)] := by kernel_rfl
theorem elA_60 : elA Tryd.prog 60 = none := by kernel_rfl
theorem szA_61 : szA Tryd.prog 61 = some (1, false) := by kernel_rfl
theorem zr_61 : zr Tryd.prog 61 = some [.pointer none] := by kernel_rfl
theorem callable_2 : callable Tryd.prog 2 = true := by kernel_rfl
theorem callable_3 : callable Tryd.prog 3 = true := by kernel_rfl
theorem callable_4 : callable Tryd.prog 4 = true := by kernel_rfl
theorem callable_5 : callable Tryd.prog 5 = true := by kernel_rfl
theorem callable_6 : callable Tryd.prog 6 = true := by kernel_rfl
theorem callable_7 : callable Tryd.prog 7 = true := by kernel_rfl
theorem callable_8 : callable Tryd.prog 8 = true := by kernel_rfl
theorem callable_9 : callable Tryd.prog 9 = true := by kernel_rfl
theorem callable_10 : callable Tryd.prog 10 = true := by kernel_rfl
theorem callable_11 : callable Tryd.prog 11 = true := by kernel_rfl
theorem callable_12 : callable Tryd.prog 12 = true := by kernel_rfl
theorem callable_13 : callable Tryd.prog 13 = true := by kernel_rfl
theorem callable_14 : callable Tryd.prog 14 = true := by kernel_rfl
theorem callable_15 : callable Tryd.prog 15 = true := by kernel_rfl
theorem callable_16 : callable Tryd.prog 16 = true := by kernel_rfl
theorem callable_17 : callable Tryd.prog 17 = true := by kernel_rfl
theorem callable_18 : callable Tryd.prog 18 = true := by kernel_rfl
theorem callable_19 : callable Tryd.prog 19 = true := by kernel_rfl
theorem callable_20 : callable Tryd.prog 20 = true := by kernel_rfl
theorem callable_40 : callable Tryd.prog 40 = true := by kernel_rfl
theorem mixed : Tryd.prog.follows .mixedOrders = true := by kernel_rfl
end Go.Proofs.YtcakdalajafmoaaDoor.T
