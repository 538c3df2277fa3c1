/- A part of the proof of OpsLinesCardSaid. -/
import Derived.Test.YthhogfnghaikaaaDoorProg
import Derived.Test.YthhogfnghaikaaaDoorCSxRegion
namespace Go.Proofs.YthhogfnghaikaaaDoor.T
open Go.SX Go.Proofs
theorem szA_1 : szA Tryd.prog 1 = some (1, false) := by kernel_rfl
theorem zr_1 : zr Tryd.prog 1 = some [.nilFunc] := by kernel_rfl
theorem szA_2 : szA Tryd.prog 2 = some (1, false) := by kernel_rfl
theorem zr_2 : zr Tryd.prog 2 = some [.int .i64 0] := by kernel_rfl
theorem szA_3 : szA Tryd.prog 3 = some (1, false) := by kernel_rfl
theorem zr_3 : zr Tryd.prog 3 = some [.int .i64 0] := by kernel_rfl
theorem szA_4 : szA Tryd.prog 4 = some (1, false) := by kernel_rfl
theorem zr_4 : zr Tryd.prog 4 = some [.bool false] := by kernel_rfl
theorem szA_5 : szA Tryd.prog 5 = some (1, false) := by kernel_rfl
theorem zr_5 : zr Tryd.prog 5 = some [.int .u8 0] := by kernel_rfl
theorem szA_6 : szA Tryd.prog 6 = some (1, false) := by kernel_rfl
theorem zr_6 : zr Tryd.prog 6 = some [.int .u8 0] := by kernel_rfl
theorem szA_7 : szA Tryd.prog 7 = some (4, true) := by kernel_rfl
theorem zr_7 : zr Tryd.prog 7 = some [.int .i64 0, .int .i64 0, .bool false, .int .u8 0] := by kernel_rfl
theorem lay_7 : lay Tryd.prog 7 = some [(0, 1, false), (1, 1, false), (2, 1, false), (3, 1, false)] := by kernel_rfl
theorem elA_7 : elA Tryd.prog 7 = none := by kernel_rfl
theorem szA_8 : szA Tryd.prog 8 = some (4, true) := by kernel_rfl
theorem zr_8 : zr Tryd.prog 8 = some [.int .i64 0, .int .i64 0, .bool false, .int .u8 0] := by kernel_rfl
theorem lay_8 : lay Tryd.prog 8 = some [(0, 1, false), (1, 1, false), (2, 1, false), (3, 1, false)] := by kernel_rfl
theorem elA_8 : elA Tryd.prog 8 = none := by kernel_rfl
theorem szA_9 : szA Tryd.prog 9 = some (1, false) := by kernel_rfl
theorem zr_9 : zr Tryd.prog 9 = some [.string ⟨#[]⟩] := by kernel_rfl
theorem szA_10 : szA Tryd.prog 10 = some (1, false) := by kernel_rfl
theorem zr_10 : zr Tryd.prog 10 = some [.string ⟨#[]⟩] := by kernel_rfl
theorem szA_11 : szA Tryd.prog 11 = some (1, false) := by kernel_rfl
theorem zr_11 : zr Tryd.prog 11 = some [.string ⟨#[]⟩] := by kernel_rfl
theorem szA_12 : szA Tryd.prog 12 = some (1, false) := by kernel_rfl
theorem zr_12 : zr Tryd.prog 12 = some [.int .u64 0] := by kernel_rfl
theorem szA_13 : szA Tryd.prog 13 = some (2, true) := by kernel_rfl
theorem zr_13 : zr Tryd.prog 13 = some [.string ⟨#[]⟩, .int .u64 0] := by kernel_rfl
theorem lay_13 : lay Tryd.prog 13 = some [(0, 1, false), (1, 1, false)] := by kernel_rfl
theorem elA_13 : elA Tryd.prog 13 = none := by kernel_rfl
theorem szA_14 : szA Tryd.prog 14 = some (2, true) := by kernel_rfl
theorem zr_14 : zr Tryd.prog 14 = some [.string ⟨#[]⟩, .int .u64 0] := by kernel_rfl
theorem lay_14 : lay Tryd.prog 14 = some [(0, 1, false), (1, 1, false)] := by kernel_rfl
theorem elA_14 : elA Tryd.prog 14 = none := by kernel_rfl
theorem szA_15 : szA Tryd.prog 15 = some (1, false) := by kernel_rfl
theorem zr_15 : zr Tryd.prog 15 = some [.pointer none] := by kernel_rfl
theorem ptB_15 : ptB Tryd.prog 15 = true := by kernel_rfl
theorem szA_16 : szA Tryd.prog 16 = some (1, false) := by kernel_rfl
theorem zr_16 : zr Tryd.prog 16 = some [.pointer none] := by kernel_rfl
theorem ptB_16 : ptB Tryd.prog 16 = true := by kernel_rfl
theorem szA_17 : szA Tryd.prog 17 = some (1, false) := by kernel_rfl
theorem zr_17 : zr Tryd.prog 17 = some [.pointer none] := by kernel_rfl
theorem ptB_17 : ptB Tryd.prog 17 = true := by kernel_rfl
theorem szA_18 : szA Tryd.prog 18 = some (1, true) := by kernel_rfl
theorem zr_18 : zr Tryd.prog 18 = some [.pointer none] := by kernel_rfl
theorem lay_18 : lay Tryd.prog 18 = some [(0, 1, false)] := by kernel_rfl
theorem elA_18 : elA Tryd.prog 18 = none := by kernel_rfl
theorem szA_19 : szA Tryd.prog 19 = some (1, true) := by kernel_rfl
theorem zr_19 : zr Tryd.prog 19 = some [.pointer none] := by kernel_rfl
theorem lay_19 : lay Tryd.prog 19 = some [(0, 1, false)] := by kernel_rfl
theorem elA_19 : elA Tryd.prog 19 = none := by kernel_rfl
theorem szA_20 : szA Tryd.prog 20 = some (1, false) := by kernel_rfl
theorem zr_20 : zr Tryd.prog 20 = some [.nilIface] := by kernel_rfl
theorem szA_21 : szA Tryd.prog 21 = some (1, false) := by kernel_rfl
theorem zr_21 : zr Tryd.prog 21 = some [.int .i32 0] := by kernel_rfl
theorem szA_22 : szA Tryd.prog 22 = some (1, false) := by kernel_rfl
theorem zr_22 : zr Tryd.prog 22 = some [.int .u8 0] := by kernel_rfl
theorem szA_23 : szA Tryd.prog 23 = some (1, false) := by kernel_rfl
theorem zr_23 : zr Tryd.prog 23 = some [.int .u16 0] := by kernel_rfl
theorem szA_24 : szA Tryd.prog 24 = some (6, true) := by kernel_rfl
theorem zr_24 : zr Tryd.prog 24 = some [.int .u8 0, .int .u8 0, .int .u8 0, .int .u8 0, .int .u8 0, .int .u16 0] := by kernel_rfl
theorem lay_24 : lay Tryd.prog 24 = some [(0, 1, false), (1, 1, false), (2, 1, false), (3, 1, false), (4, 1, false), (5, 1, false)] := by kernel_rfl
theorem elA_24 : elA Tryd.prog 24 = none := by kernel_rfl
theorem szA_25 : szA Tryd.prog 25 = some (6, true) := by kernel_rfl
theorem zr_25 : zr Tryd.prog 25 = some [.int .u8 0, .int .u8 0, .int .u8 0, .int .u8 0, .int .u8 0, .int .u16 0] := by kernel_rfl
theorem lay_25 : lay Tryd.prog 25 = some [(0, 1, false), (1, 1, false), (2, 1, false), (3, 1, false), (4, 1, false), (5, 1, false)] := by kernel_rfl
theorem elA_25 : elA Tryd.prog 25 = none := by kernel_rfl
theorem szA_26 : szA Tryd.prog 26 = some (1, false) := by kernel_rfl
theorem zr_26 : zr Tryd.prog 26 = some [.nilFunc] := by kernel_rfl
theorem szA_27 : szA Tryd.prog 27 = some (1, false) := by kernel_rfl
theorem zr_27 : zr Tryd.prog 27 = some [.int .i64 0] := by kernel_rfl
theorem szA_29 : szA Tryd.prog 29 = some (1, false) := by kernel_rfl
theorem zr_29 : zr Tryd.prog 29 = some [.nilFunc] := by kernel_rfl
theorem szA_31 : szA Tryd.prog 31 = some (1, false) := by kernel_rfl
theorem zr_31 : zr Tryd.prog 31 = some [.nilFunc] := by kernel_rfl
theorem szA_33 : szA Tryd.prog 33 = some (1, false) := by kernel_rfl
theorem zr_33 : zr Tryd.prog 33 = some [.nilFunc] := by kernel_rfl
theorem szA_35 : szA Tryd.prog 35 = some (1, false) := by kernel_rfl
theorem zr_35 : zr Tryd.prog 35 = some [.nilFunc] := by kernel_rfl
theorem szA_36 : szA Tryd.prog 36 = some (1, false) := by kernel_rfl
theorem zr_36 : zr Tryd.prog 36 = some [.nilFunc] := by kernel_rfl
theorem szA_37 : szA Tryd.prog 37 = some (1, false) := by kernel_rfl
theorem zr_37 : zr Tryd.prog 37 = some [.nilFunc] := by kernel_rfl
theorem szA_38 : szA Tryd.prog 38 = some (1, false) := by kernel_rfl
theorem zr_38 : zr Tryd.prog 38 = some [.slice none 0 0] := by kernel_rfl
theorem elS_38 : elS Tryd.prog 38 = some (44, 9, 40) := by kernel_rfl
theorem szA_39 : szA Tryd.prog 39 = some (1, false) := by kernel_rfl
theorem zr_39 : zr Tryd.prog 39 = some [.pointer none] := by kernel_rfl
theorem ptB_39 : ptB Tryd.prog 39 = true := by kernel_rfl
theorem szA_40 : szA Tryd.prog 40 = some (1, false) := by kernel_rfl
theorem zr_40 : zr Tryd.prog 40 = some [.slice none 0 0] := by kernel_rfl
theorem elS_40 : elS Tryd.prog 40 = some (48, 1, 24) := by kernel_rfl
theorem szA_41 : szA Tryd.prog 41 = some (2, true) := by kernel_rfl
theorem zr_41 : zr Tryd.prog 41 = some [.slice none 0 0, .slice none 0 0] := by kernel_rfl
theorem lay_41 : lay Tryd.prog 41 = some [(0, 1, false), (1, 1, false)] := by kernel_rfl
theorem elA_41 : elA Tryd.prog 41 = none := by kernel_rfl
theorem szA_42 : szA Tryd.prog 42 = some (2, true) := by kernel_rfl
theorem zr_42 : zr Tryd.prog 42 = some [.slice none 0 0, .slice none 0 0] := by kernel_rfl
theorem lay_42 : lay Tryd.prog 42 = some [(0, 1, false), (1, 1, false)] := by kernel_rfl
theorem elA_42 : elA Tryd.prog 42 = none := by kernel_rfl
theorem szA_43 : szA Tryd.prog 43 = some (9, true) := by kernel_rfl
theorem zr_43 : zr Tryd.prog 43 = some [.int .i64 0, .int .u16 0, .int .u8 0, .int .u8 0, .int .u8 0, .int .u8 0, .int .u8 0, .int .u16 0, .string ⟨#[]⟩] := by kernel_rfl
theorem lay_43 : lay Tryd.prog 43 = some [(0, 1, false), (1, 1, false), (2, 6, true), (8, 1, false)] := by kernel_rfl
theorem elA_43 : elA Tryd.prog 43 = none := by kernel_rfl
theorem szA_44 : szA Tryd.prog 44 = some (9, true) := by kernel_rfl
theorem zr_44 : zr Tryd.prog 44 = some [.int .i64 0, .int .u16 0, .int .u8 0, .int .u8 0, .int .u8 0, .int .u8 0, .int .u8 0, .int .u16 0, .string ⟨#[]⟩] := by kernel_rfl
theorem lay_44 : lay Tryd.prog 44 = some [(0, 1, false), (1, 1, false), (2, 6, true), (8, 1, false)] := by kernel_rfl
theorem elA_44 : elA Tryd.prog 44 = none := by kernel_rfl
theorem szA_45 : szA Tryd.prog 45 = some (1, false) := by kernel_rfl
theorem zr_45 : zr Tryd.prog 45 = some [.nilFunc] := by kernel_rfl
theorem szA_46 : szA Tryd.prog 46 = some (1, false) := by kernel_rfl
theorem zr_46 : zr Tryd.prog 46 = some [.nilFunc] := by kernel_rfl
theorem szA_47 : szA Tryd.prog 47 = some (1, false) := by kernel_rfl
theorem zr_47 : zr Tryd.prog 47 = some [.slice none 0 0] := by kernel_rfl
theorem elS_47 : elS Tryd.prog 47 = some (23, 1, 2) := by kernel_rfl
theorem szA_48 : szA Tryd.prog 48 = some (1, false) := by kernel_rfl
theorem zr_48 : zr Tryd.prog 48 = some [.slice none 0 0] := by kernel_rfl
theorem elS_48 : elS Tryd.prog 48 = some (5, 1, 1) := by kernel_rfl
theorem szA_49 : szA Tryd.prog 49 = some (1, false) := by kernel_rfl
theorem zr_49 : zr Tryd.prog 49 = some [.int .u64 0] := by kernel_rfl
theorem szA_51 : szA Tryd.prog 51 = some (1, false) := by kernel_rfl
theorem zr_51 : zr Tryd.prog 51 = some [.nilFunc] := by kernel_rfl
theorem szA_52 : szA Tryd.prog 52 = some (1, false) := by kernel_rfl
theorem zr_52 : zr Tryd.prog 52 = some [.nilFunc] := by kernel_rfl
theorem szA_53 : szA Tryd.prog 53 = some (1, false) := by kernel_rfl
theorem zr_53 : zr Tryd.prog 53 = some [.nilFunc] := by kernel_rfl
theorem szA_54 : szA Tryd.prog 54 = some (1, false) := by kernel_rfl
theorem zr_54 : zr Tryd.prog 54 = some [.slice none 0 0] := by kernel_rfl
theorem elS_54 : elS Tryd.prog 54 = some (58, 5, 48) := by kernel_rfl
theorem szA_55 : szA Tryd.prog 55 = some (1, false) := by kernel_rfl
theorem zr_55 : zr Tryd.prog 55 = some [.nilFunc] := by kernel_rfl
theorem szA_56 : szA Tryd.prog 56 = some (1, false) := by kernel_rfl
theorem zr_56 : zr Tryd.prog 56 = some [.slice none 0 0] := by kernel_rfl
theorem elS_56 : elS Tryd.prog 56 = some (62, 5, 48) := by kernel_rfl
theorem szA_57 : szA Tryd.prog 57 = some (5, true) := by kernel_rfl
theorem zr_57 : zr Tryd.prog 57 = some [.int .u8 0, .int .u16 0, .int .u16 0, .string ⟨#[]⟩, .slice none 0 0] := by kernel_rfl
theorem lay_57 : lay Tryd.prog 57 = some [(0, 1, false), (1, 1, false), (2, 1, false), (3, 1, false), (4, 1, false)] := by kernel_rfl
theorem elA_57 : elA Tryd.prog 57 = none := by kernel_rfl
theorem szA_58 : szA Tryd.prog 58 = some (5, true) := by kernel_rfl
theorem zr_58 : zr Tryd.prog 58 = some [.int .u8 0, .int .u16 0, .int .u16 0, .string ⟨#[]⟩, .slice none 0 0] := by kernel_rfl
theorem lay_58 : lay Tryd.prog 58 = some [(0, 1, false), (1, 1, false), (2, 1, false), (3, 1, false), (4, 1, false)] := by kernel_rfl
theorem elA_58 : elA Tryd.prog 58 = none := by kernel_rfl
theorem szA_59 : szA Tryd.prog 59 = some (1, false) := by kernel_rfl
theorem zr_59 : zr Tryd.prog 59 = some [.nilFunc] := by kernel_rfl
theorem szA_60 : szA Tryd.prog 60 = some (1, false) := by kernel_rfl
theorem zr_60 : zr Tryd.prog 60 = some [.nilFunc] := by kernel_rfl
theorem szA_61 : szA Tryd.prog 61 = some (5, true) := by kernel_rfl
theorem zr_61 : zr Tryd.prog 61 = some [.int .i64 0, .int .i64 0, .string ⟨#[]⟩, .nilFunc, .nilFunc] := by kernel_rfl
theorem lay_61 : lay Tryd.prog 61 = some [(0, 1, false), (1, 1, false), (2, 1, false), (3, 1, false), (4, 1, false)] := by kernel_rfl
theorem elA_61 : elA Tryd.prog 61 = none := by kernel_rfl
theorem szA_62 : szA Tryd.prog 62 = some (5, true) := by kernel_rfl
theorem zr_62 : zr Tryd.prog 62 = some [.int .i64 0, .int .i64 0, .string ⟨#[]⟩, .nilFunc, .nilFunc] := by kernel_rfl
theorem lay_62 : lay Tryd.prog 62 = some [(0, 1, false), (1, 1, false), (2, 1, false), (3, 1, false), (4, 1, false)] := by kernel_rfl
theorem elA_62 : elA Tryd.prog 62 = none := by kernel_rfl
theorem szA_63 : szA Tryd.prog 63 = some (1, false) := by kernel_rfl
theorem zr_63 : zr Tryd.prog 63 = some [.pointer none] := by kernel_rfl
theorem ptB_63 : ptB Tryd.prog 63 = true := by kernel_rfl
theorem szA_65 : szA Tryd.prog 65 = some (1, false) := by kernel_rfl
theorem zr_65 : zr Tryd.prog 65 = some [.nilFunc] := by kernel_rfl
theorem szA_66 : szA Tryd.prog 66 = some (1, false) := by kernel_rfl
theorem zr_66 : zr Tryd.prog 66 = some [.nilFunc] := by kernel_rfl
theorem szA_67 : szA Tryd.prog 67 = some (1, false) := by kernel_rfl
theorem zr_67 : zr Tryd.prog 67 = some [.slice none 0 0] := by kernel_rfl
theorem elS_67 : elS Tryd.prog 67 = some (9, 1, 16) := by kernel_rfl
theorem szA_68 : szA Tryd.prog 68 = some (1, false) := by kernel_rfl
theorem zr_68 : zr Tryd.prog 68 = some [.nilFunc] := by kernel_rfl
theorem szA_70 : szA Tryd.prog 70 = some (1, false) := by kernel_rfl
theorem zr_70 : zr Tryd.prog 70 = some [.nilFunc] := by kernel_rfl
theorem szA_71 : szA Tryd.prog 71 = some (1, false) := by kernel_rfl
theorem zr_71 : zr Tryd.prog 71 = some [.nilFunc] := by kernel_rfl
theorem szA_72 : szA Tryd.prog 72 = some (1, false) := by kernel_rfl
theorem zr_72 : zr Tryd.prog 72 = some [.pointer none] := by kernel_rfl
theorem ptB_72 : ptB Tryd.prog 72 = true := by kernel_rfl
theorem szA_73 : szA Tryd.prog 73 = some (1, false) := by kernel_rfl
theorem zr_73 : zr Tryd.prog 73 = some [.map none] := by kernel_rfl
theorem mapT_73 : mapT Tryd.prog 73 = some (.string, some (.int .i64 0)) := by kernel_rfl
theorem szA_74 : szA Tryd.prog 74 = some (1, false) := by kernel_rfl
theorem zr_74 : zr Tryd.prog 74 = some [.slice none 0 0] := by kernel_rfl
theorem elS_74 : elS Tryd.prog 74 = some (84, 3, 32) := by kernel_rfl
theorem szA_75 : szA Tryd.prog 75 = some (3, true) := by kernel_rfl
theorem zr_75 : zr Tryd.prog 75 = some [.slice none 0 0, .map none, .slice none 0 0] := by kernel_rfl
theorem lay_75 : lay Tryd.prog 75 = some [(0, 1, false), (1, 1, false), (2, 1, false)] := by kernel_rfl
theorem elA_75 : elA Tryd.prog 75 = none := by kernel_rfl
theorem szA_76 : szA Tryd.prog 76 = some (3, true) := by kernel_rfl
theorem zr_76 : zr Tryd.prog 76 = some [.slice none 0 0, .map none, .slice none 0 0] := by kernel_rfl
theorem lay_76 : lay Tryd.prog 76 = some [(0, 1, false), (1, 1, false), (2, 1, false)] := by kernel_rfl
theorem elA_76 : elA Tryd.prog 76 = none := by kernel_rfl
theorem szA_77 : szA Tryd.prog 77 = some (1, false) := by kernel_rfl
theorem zr_77 : zr Tryd.prog 77 = some [.nilFunc] := by kernel_rfl
theorem szA_78 : szA Tryd.prog 78 = some (1, false) := by kernel_rfl
theorem zr_78 : zr Tryd.prog 78 = some [.nilFunc] := by kernel_rfl
theorem szA_79 : szA Tryd.prog 79 = some (1, false) := by kernel_rfl
theorem zr_79 : zr Tryd.prog 79 = some [.nilFunc] := by kernel_rfl
theorem szA_81 : szA Tryd.prog 81 = some (1, false) := by kernel_rfl
theorem zr_81 : zr Tryd.prog 81 = some [.nilFunc] := by kernel_rfl
theorem szA_82 : szA Tryd.prog 82 = some (1, false) := by kernel_rfl
theorem zr_82 : zr Tryd.prog 82 = some [.nilFunc] := by kernel_rfl
theorem szA_83 : szA Tryd.prog 83 = some (3, true) := by kernel_rfl
theorem zr_83 : zr Tryd.prog 83 = some [.int .i64 0, .string ⟨#[]⟩, .int .i64 0] := by kernel_rfl
theorem lay_83 : lay Tryd.prog 83 = some [(0, 1, false), (1, 1, false), (2, 1, false)] := by kernel_rfl
theorem elA_83 : elA Tryd.prog 83 = none := by kernel_rfl
theorem szA_84 : szA Tryd.prog 84 = some (3, true) := by kernel_rfl
theorem zr_84 : zr Tryd.prog 84 = some [.int .i64 0, .string ⟨#[]⟩, .int .i64 0] := by kernel_rfl
theorem lay_84 : lay Tryd.prog 84 = some [(0, 1, false), (1, 1, false), (2, 1, false)] := by kernel_rfl
theorem elA_84 : elA Tryd.prog 84 = none := by kernel_rfl
theorem szA_86 : szA Tryd.prog 86 = some (1, false) := by kernel_rfl
theorem zr_86 : zr Tryd.prog 86 = some [.nilFunc] := by kernel_rfl
theorem szA_87 : szA Tryd.prog 87 = some (1, false) := by kernel_rfl
theorem zr_87 : zr Tryd.prog 87 = some [.nilFunc] := by kernel_rfl
theorem szA_88 : szA Tryd.prog 88 = some (1, false) := by kernel_rfl
theorem zr_88 : zr Tryd.prog 88 = some [.slice none 0 0] := by kernel_rfl
theorem elS_88 : elS Tryd.prog 88 = some (91, 4, 40) := by kernel_rfl
theorem szA_89 : szA Tryd.prog 89 = some (1, false) := by kernel_rfl
theorem zr_89 : zr Tryd.prog 89 = some [.nilFunc] := by kernel_rfl
theorem szA_90 : szA Tryd.prog 90 = some (4, true) := by kernel_rfl
theorem zr_90 : zr Tryd.prog 90 = some [.int .u8 0, .int .u16 0, .string ⟨#[]⟩, .string ⟨#[]⟩] := by kernel_rfl
theorem lay_90 : lay Tryd.prog 90 = some [(0, 1, false), (1, 1, false), (2, 1, false), (3, 1, false)] := by kernel_rfl
theorem elA_90 : elA Tryd.prog 90 = none := by kernel_rfl
theorem szA_91 : szA Tryd.prog 91 = some (4, true) := by kernel_rfl
theorem zr_91 : zr Tryd.prog 91 = some [.int .u8 0, .int .u16 0, .string ⟨#[]⟩, .string ⟨#[]⟩] := by kernel_rfl
theorem lay_91 : lay Tryd.prog 91 = some [(0, 1, false), (1, 1, false), (2, 1, false), (3, 1, false)] := by kernel_rfl
theorem elA_91 : elA Tryd.prog 91 = none := by kernel_rfl
theorem szA_92 : szA Tryd.prog 92 = some (1, false) := by kernel_rfl
theorem zr_92 : zr Tryd.prog 92 = some [.nilFunc] := by kernel_rfl
theorem szA_93 : szA Tryd.prog 93 = some (1, false) := by kernel_rfl
theorem zr_93 : zr Tryd.prog 93 = some [.nilFunc] := by kernel_rfl
theorem szA_94 : szA Tryd.prog 94 = some (1, false) := by kernel_rfl
theorem zr_94 : zr Tryd.prog 94 = some [.nilFunc] := by kernel_rfl
theorem szA_95 : szA Tryd.prog 95 = some (1, false) := by kernel_rfl
theorem zr_95 : zr Tryd.prog 95 = some [.nilFunc] := by kernel_rfl
theorem szA_96 : szA Tryd.prog 96 = some (1, false) := by kernel_rfl
theorem zr_96 : zr Tryd.prog 96 = some [.nilFunc] := by kernel_rfl
theorem szA_97 : szA Tryd.prog 97 = some (1, false) := by kernel_rfl
theorem zr_97 : zr Tryd.prog 97 = some [.pointer none] := by kernel_rfl
theorem ptB_97 : ptB Tryd.prog 97 = true := by kernel_rfl
theorem szA_98 : szA Tryd.prog 98 = some (1, false) := by kernel_rfl
theorem zr_98 : zr Tryd.prog 98 = some [.slice none 0 0] := by kernel_rfl
theorem elS_98 : elS Tryd.prog 98 = some (3, 1, 8) := by kernel_rfl
theorem szA_99 : szA Tryd.prog 99 = some (1, false) := by kernel_rfl
theorem zr_99 : zr Tryd.prog 99 = some [.slice none 0 0] := by kernel_rfl
theorem elS_99 : elS Tryd.prog 99 = some (22, 1, 1) := by kernel_rfl
theorem szA_100 : szA Tryd.prog 100 = some (7, true) := by kernel_rfl
theorem zr_100 : zr Tryd.prog 100 = some [.slice none 0 0, .slice none 0 0, .slice none 0 0, .slice none 0 0, .slice none 0 0, .slice none 0 0, .slice none 0 0] := by kernel_rfl
theorem lay_100 : lay Tryd.prog 100 = some [(0, 1, false), (1, 1, false), (2, 1, false), (3, 1, false), (4, 1, false), (5, 1, false), (6, 1, false)] := by kernel_rfl
theorem elA_100 : elA Tryd.prog 100 = none := by kernel_rfl
theorem szA_101 : szA Tryd.prog 101 = some (7, true) := by kernel_rfl
theorem zr_101 : zr Tryd.prog 101 = some [.slice none 0 0, .slice none 0 0, .slice none 0 0, .slice none 0 0, .slice none 0 0, .slice none 0 0, .slice none 0 0] := by kernel_rfl
theorem lay_101 : lay Tryd.prog 101 = some [(0, 1, false), (1, 1, false), (2, 1, false), (3, 1, false), (4, 1, false), (5, 1, false), (6, 1, false)] := by kernel_rfl
theorem elA_101 : elA Tryd.prog 101 = none := by kernel_rfl
theorem szA_102 : szA Tryd.prog 102 = some (1, false) := by kernel_rfl
theorem zr_102 : zr Tryd.prog 102 = some [.nilFunc] := by kernel_rfl
theorem szA_103 : szA Tryd.prog 103 = some (1, false) := by kernel_rfl
theorem zr_103 : zr Tryd.prog 103 = some [.nilFunc] := by kernel_rfl
theorem szA_104 : szA Tryd.prog 104 = some (1, false) := by kernel_rfl
theorem zr_104 : zr Tryd.prog 104 = some [.nilFunc] := by kernel_rfl
theorem szA_106 : szA Tryd.prog 106 = some (1, false) := by kernel_rfl
theorem zr_106 : zr Tryd.prog 106 = some [.nilFunc] := by kernel_rfl
theorem szA_107 : szA Tryd.prog 107 = some (1, false) := by kernel_rfl
theorem zr_107 : zr Tryd.prog 107 = some [.nilFunc] := by kernel_rfl
theorem szA_108 : szA Tryd.prog 108 = some (1, false) := by kernel_rfl
theorem zr_108 : zr Tryd.prog 108 = some [.nilFunc] := by kernel_rfl
theorem szA_109 : szA Tryd.prog 109 = some (1, false) := by kernel_rfl
theorem zr_109 : zr Tryd.prog 109 = some [.nilFunc] := by kernel_rfl
theorem szA_110 : szA Tryd.prog 110 = some (1, false) := by kernel_rfl
theorem zr_110 : zr Tryd.prog 110 = some [.nilFunc] := by kernel_rfl
theorem szA_111 : szA Tryd.prog 111 = some (1, false) := by kernel_rfl
theorem zr_111 : zr Tryd.prog 111 = some [.nilFunc] := by kernel_rfl
theorem szA_112 : szA Tryd.prog 112 = some (1, false) := by kernel_rfl
theorem zr_112 : zr Tryd.prog 112 = some [.nilFunc] := by kernel_rfl
theorem szA_113 : szA Tryd.prog 113 = some (4, true) := by kernel_rfl
theorem zr_113 : zr Tryd.prog 113 = some [.slice none 0 0, .string ⟨#[]⟩, .string ⟨#[]⟩, .int .u8 0] := by kernel_rfl
theorem lay_113 : lay Tryd.prog 113 = some [(0, 1, false), (1, 1, false), (2, 1, false), (3, 1, false)] := by kernel_rfl
theorem elA_113 : elA Tryd.prog 113 = none := by kernel_rfl
theorem szA_114 : szA Tryd.prog 114 = some (4, true) := by kernel_rfl
theorem zr_114 : zr Tryd.prog 114 = some [.slice none 0 0, .string ⟨#[]⟩, .string ⟨#[]⟩, .int .u8 0] := by kernel_rfl
theorem lay_114 : lay Tryd.prog 114 = some [(0, 1, false), (1, 1, false), (2, 1, false), (3, 1, false)] := by kernel_rfl
theorem elA_114 : elA Tryd.prog 114 = none := by kernel_rfl
theorem szA_116 : szA Tryd.prog 116 = some (1, false) := by kernel_rfl
theorem zr_116 : zr Tryd.prog 116 = some [.nilFunc] := by kernel_rfl
theorem szA_117 : szA Tryd.prog 117 = some (1, false) := by kernel_rfl
theorem zr_117 : zr Tryd.prog 117 = some [.pointer none] := by kernel_rfl
theorem ptB_117 : ptB Tryd.prog 117 = true := by kernel_rfl
theorem szA_118 : szA Tryd.prog 118 = some (2, true) := by kernel_rfl
theorem zr_118 : zr Tryd.prog 118 = some [.pointer none, .slice none 0 0] := by kernel_rfl
theorem lay_118 : lay Tryd.prog 118 = some [(0, 1, false), (1, 1, false)] := by kernel_rfl
theorem elA_118 : elA Tryd.prog 118 = none := by kernel_rfl
theorem szA_119 : szA Tryd.prog 119 = some (2, true) := by kernel_rfl
theorem zr_119 : zr Tryd.prog 119 = some [.pointer none, .slice none 0 0] := by kernel_rfl
theorem lay_119 : lay Tryd.prog 119 = some [(0, 1, false), (1, 1, false)] := by kernel_rfl
theorem elA_119 : elA Tryd.prog 119 = none := by kernel_rfl
theorem szA_120 : szA Tryd.prog 120 = some (1, false) := by kernel_rfl
theorem zr_120 : zr Tryd.prog 120 = some [.nilFunc] := by kernel_rfl
theorem szA_121 : szA Tryd.prog 121 = some (1, false) := by kernel_rfl
theorem zr_121 : zr Tryd.prog 121 = some [.nilIface] := by kernel_rfl
theorem szA_122 : szA Tryd.prog 122 = some (1, false) := by kernel_rfl
theorem zr_122 : zr Tryd.prog 122 = some [.nilIface] := by kernel_rfl
theorem szA_124 : szA Tryd.prog 124 = some (1, false) := by kernel_rfl
theorem zr_124 : zr Tryd.prog 124 = some [.nilFunc] := by kernel_rfl
theorem szA_125 : szA Tryd.prog 125 = some (1, false) := by kernel_rfl
theorem zr_125 : zr Tryd.prog 125 = some [.nilFunc] := by kernel_rfl
theorem szA_127 : szA Tryd.prog 127 = some (1, false) := by kernel_rfl
theorem zr_127 : zr Tryd.prog 127 = some [.nilFunc] := by kernel_rfl
theorem szA_128 : szA Tryd.prog 128 = some (1, false) := by kernel_rfl
theorem zr_128 : zr Tryd.prog 128 = some [.nilFunc] := by kernel_rfl
theorem szA_129 : szA Tryd.prog 129 = some (1, false) := by kernel_rfl
theorem zr_129 : zr Tryd.prog 129 = some [.nilFunc] := by kernel_rfl
theorem szA_130 : szA Tryd.prog 130 = some (1, false) := by kernel_rfl
theorem zr_130 : zr Tryd.prog 130 = some [.pointer none] := by kernel_rfl
theorem ptB_130 : ptB Tryd.prog 130 = true := by kernel_rfl
theorem szA_131 : szA Tryd.prog 131 = some (1, false) := by kernel_rfl
theorem zr_131 : zr Tryd.prog 131 = some [.int .u32 0] := by kernel_rfl
theorem szA_133 : szA Tryd.prog 133 = some (1, false) := by kernel_rfl
theorem zr_133 : zr Tryd.prog 133 = some [.nilFunc] := by kernel_rfl
theorem szA_134 : szA Tryd.prog 134 = some (1, false) := by kernel_rfl
theorem zr_134 : zr Tryd.prog 134 = some [.pointer none] := by kernel_rfl
theorem szA_135 : szA Tryd.prog 135 = some (1, false) := by kernel_rfl
theorem zr_135 : zr Tryd.prog 135 = some [.nilFunc] := by kernel_rfl
theorem szA_136 : szA Tryd.prog 136 = some (1, false) := by kernel_rfl
theorem zr_136 : zr Tryd.prog 136 = some [.nilFunc] := by kernel_rfl
theorem szA_137 : szA Tryd.prog 137 = some (256, true) := by kernel_rfl
theorem elA_137 : elA Tryd.prog 137 = some (256, 5, 1, false) := by kernel_rfl
theorem lay_137 : lay Tryd.prog 137 = none := by kernel_rfl
theorem szA_138 : szA Tryd.prog 138 = some (2, true) := by kernel_rfl
theorem zr_138 : zr Tryd.prog 138 = some [.int .u8 0, .int .u8 0] := by kernel_rfl
theorem lay_138 : lay Tryd.prog 138 = some [(0, 1, false), (1, 1, false)] := by kernel_rfl
theorem elA_138 : elA Tryd.prog 138 = none := by kernel_rfl
theorem szA_139 : szA Tryd.prog 139 = some (2, true) := by kernel_rfl
theorem zr_139 : zr Tryd.prog 139 = some [.int .u8 0, .int .u8 0] := by kernel_rfl
theorem lay_139 : lay Tryd.prog 139 = some [(0, 1, false), (1, 1, false)] := by kernel_rfl
theorem elA_139 : elA Tryd.prog 139 = none := by kernel_rfl
theorem szA_140 : szA Tryd.prog 140 = some (32, true) := by kernel_rfl
theorem zr_140 : zr Tryd.prog 140 = some [.int .u8 0, .int .u8 0, .int .u8 0, .int .u8 0, .int .u8 0, .int .u8 0, .int .u8 0, .int .u8 0, .int .u8 0, .int .u8 0, .int .u8 0, .int .u8 0, .int .u8 0, .int .u8 0, .int .u8 0, .int .u8 0, .int .u8 0, .int .u8 0, .int .u8 0, .int .u8 0, .int .u8 0, .int .u8 0, .int .u8 0, .int .u8 0, .int .u8 0, .int .u8 0, .int .u8 0, .int .u8 0, .int .u8 0, .int .u8 0, .int .u8 0, .int .u8 0] := by kernel_rfl
theorem elA_140 : elA Tryd.prog 140 = some (16, 139, 2, true) := by kernel_rfl
theorem lay_140 : lay Tryd.prog 140 = none := by kernel_rfl
theorem szA_141 : szA Tryd.prog 141 = some (4, true) := by kernel_rfl
theorem zr_141 : zr Tryd.prog 141 = some [.pointer none, .pointer none, .pointer none, .string ⟨#[]⟩] := by kernel_rfl
theorem lay_141 : lay Tryd.prog 141 = some [(0, 1, false), (1, 1, false), (2, 1, false), (3, 1, false)] := by kernel_rfl
theorem elA_141 : elA Tryd.prog 141 = none := by kernel_rfl
theorem szA_142 : szA Tryd.prog 142 = some (4, true) := by kernel_rfl
theorem zr_142 : zr Tryd.prog 142 = some [.pointer none, .pointer none, .pointer none, .string ⟨#[]⟩] := by kernel_rfl
theorem lay_142 : lay Tryd.prog 142 = some [(0, 1, false), (1, 1, false), (2, 1, false), (3, 1, false)] := by kernel_rfl
theorem elA_142 : elA Tryd.prog 142 = none := by kernel_rfl
theorem szA_143 : szA Tryd.prog 143 = some (0, true) := by kernel_rfl
theorem zr_143 : zr Tryd.prog 143 = some [] := by kernel_rfl
theorem elA_143 : elA Tryd.prog 143 = some (0, 16, 1, false) := by kernel_rfl
theorem lay_143 : lay Tryd.prog 143 = none := by kernel_rfl
theorem szA_144 : szA Tryd.prog 144 = some (0, true) := by kernel_rfl
theorem zr_144 : zr Tryd.prog 144 = some [] := by kernel_rfl
theorem lay_144 : lay Tryd.prog 144 = some [(0, 0, true)] := by kernel_rfl
theorem elA_144 : elA Tryd.prog 144 = none := by kernel_rfl
theorem szA_145 : szA Tryd.prog 145 = some (0, true) := by kernel_rfl
theorem zr_145 : zr Tryd.prog 145 = some [] := by kernel_rfl
theorem lay_145 : lay Tryd.prog 145 = some [(0, 0, true)] := by kernel_rfl
theorem elA_145 : elA Tryd.prog 145 = none := by kernel_rfl
theorem szA_146 : szA Tryd.prog 146 = some (1, false) := by kernel_rfl
theorem zr_146 : zr Tryd.prog 146 = some [.nilFunc] := by kernel_rfl
theorem szA_147 : szA Tryd.prog 147 = some (1, false) := by kernel_rfl
theorem zr_147 : zr Tryd.prog 147 = some [.int .u8 0] := by kernel_rfl
theorem szA_148 : szA Tryd.prog 148 = some (1, false) := by kernel_rfl
theorem zr_148 : zr Tryd.prog 148 = some [.int .u8 0] := by kernel_rfl
theorem szA_149 : szA Tryd.prog 149 = some (1, false) := by kernel_rfl
theorem zr_149 : zr Tryd.prog 149 = some [.nilFunc] := by kernel_rfl
theorem szA_150 : szA Tryd.prog 150 = some (1, false) := by kernel_rfl
theorem zr_150 : zr Tryd.prog 150 = some [.int .i32 0] := by kernel_rfl
theorem szA_151 : szA Tryd.prog 151 = some (1, false) := by kernel_rfl
theorem zr_151 : zr Tryd.prog 151 = some [.int .i32 0] := by kernel_rfl
theorem szA_152 : szA Tryd.prog 152 = some (11, true) := by kernel_rfl
theorem zr_152 : zr Tryd.prog 152 = some [.int .u64 0, .int .u64 0, .int .u32 0, .int .u8 0, .int .u8 0, .int .u8 0, .int .u8 0, .nilFunc, .pointer none, .int .i32 0, .int .i32 0] := by kernel_rfl
theorem lay_152 : lay Tryd.prog 152 = some [(0, 1, false), (1, 1, false), (2, 1, false), (3, 1, false), (4, 1, false), (5, 1, false), (6, 1, false), (7, 1, false), (8, 1, false), (9, 1, false), (10, 1, false)] := by kernel_rfl
theorem elA_152 : elA Tryd.prog 152 = none := by kernel_rfl
theorem szA_153 : szA Tryd.prog 153 = some (11, true) := by kernel_rfl
theorem zr_153 : zr Tryd.prog 153 = some [.int .u64 0, .int .u64 0, .int .u32 0, .int .u8 0, .int .u8 0, .int .u8 0, .int .u8 0, .nilFunc, .pointer none, .int .i32 0, .int .i32 0] := by kernel_rfl
theorem lay_153 : lay Tryd.prog 153 = some [(0, 1, false), (1, 1, false), (2, 1, false), (3, 1, false), (4, 1, false), (5, 1, false), (6, 1, false), (7, 1, false), (8, 1, false), (9, 1, false), (10, 1, false)] := by kernel_rfl
theorem elA_153 : elA Tryd.prog 153 = none := by kernel_rfl
theorem callable_2 : callable Tryd.prog 2 = true := by kernel_rfl
theorem callable_3 : callable Tryd.prog 3 = true := by kernel_rfl
theorem callable_4 : callable Tryd.prog 4 = true := by kernel_rfl
theorem callable_5 : callable Tryd.prog 5 = true := by kernel_rfl
theorem callable_6 : callable Tryd.prog 6 = true := by kernel_rfl
theorem callable_7 : callable Tryd.prog 7 = true := by kernel_rfl
theorem callable_8 : callable Tryd.prog 8 = true := by kernel_rfl
theorem callable_9 : callable Tryd.prog 9 = true := by kernel_rfl
theorem callable_10 : callable Tryd.prog 10 = true := by kernel_rfl
theorem callable_11 : callable Tryd.prog 11 = true := by kernel_rfl
theorem callable_12 : callable Tryd.prog 12 = true := by kernel_rfl
theorem callable_13 : callable Tryd.prog 13 = true := by kernel_rfl
theorem callable_14 : callable Tryd.prog 14 = true := by kernel_rfl
theorem callable_15 : callable Tryd.prog 15 = true := by kernel_rfl
theorem callable_16 : callable Tryd.prog 16 = true := by kernel_rfl
theorem callable_17 : callable Tryd.prog 17 = true := by kernel_rfl
theorem callable_18 : callable Tryd.prog 18 = true := by kernel_rfl
theorem callable_19 : callable Tryd.prog 19 = true := by kernel_rfl
theorem callable_20 : callable Tryd.prog 20 = true := by kernel_rfl
theorem callable_21 : callable Tryd.prog 21 = true := by kernel_rfl
theorem callable_22 : callable Tryd.prog 22 = true := by kernel_rfl
theorem callable_23 : callable Tryd.prog 23 = true := by kernel_rfl
theorem callable_24 : callable Tryd.prog 24 = true := by kernel_rfl
theorem callable_25 : callable Tryd.prog 25 = true := by kernel_rfl
theorem callable_26 : callable Tryd.prog 26 = true := by kernel_rfl
theorem callable_27 : callable Tryd.prog 27 = true := by kernel_rfl
theorem callable_28 : callable Tryd.prog 28 = true := by kernel_rfl
theorem callable_29 : callable Tryd.prog 29 = true := by kernel_rfl
theorem callable_30 : callable Tryd.prog 30 = true := by kernel_rfl
theorem callable_31 : callable Tryd.prog 31 = true := by kernel_rfl
theorem callable_32 : callable Tryd.prog 32 = true := by kernel_rfl
theorem callable_33 : callable Tryd.prog 33 = true := by kernel_rfl
theorem callable_34 : callable Tryd.prog 34 = true := by kernel_rfl
theorem callable_35 : callable Tryd.prog 35 = true := by kernel_rfl
theorem callable_36 : callable Tryd.prog 36 = true := by kernel_rfl
theorem callable_37 : callable Tryd.prog 37 = true := by kernel_rfl
theorem callable_38 : callable Tryd.prog 38 = true := by kernel_rfl
theorem callable_39 : callable Tryd.prog 39 = true := by kernel_rfl
theorem callable_40 : callable Tryd.prog 40 = true := by kernel_rfl
theorem callable_41 : callable Tryd.prog 41 = true := by kernel_rfl
theorem callable_42 : callable Tryd.prog 42 = true := by kernel_rfl
theorem callable_43 : callable Tryd.prog 43 = true := by kernel_rfl
theorem callable_44 : callable Tryd.prog 44 = true := by kernel_rfl
theorem callable_45 : callable Tryd.prog 45 = true := by kernel_rfl
theorem callable_46 : callable Tryd.prog 46 = true := by kernel_rfl
theorem callable_47 : callable Tryd.prog 47 = true := by kernel_rfl
theorem callable_48 : callable Tryd.prog 48 = true := by kernel_rfl
theorem callable_49 : callable Tryd.prog 49 = true := by kernel_rfl
theorem callable_50 : callable Tryd.prog 50 = true := by kernel_rfl
theorem callable_51 : callable Tryd.prog 51 = true := by kernel_rfl
theorem callable_52 : callable Tryd.prog 52 = true := by kernel_rfl
theorem callable_53 : callable Tryd.prog 53 = true := by kernel_rfl
theorem callable_54 : callable Tryd.prog 54 = true := by kernel_rfl
theorem callable_55 : callable Tryd.prog 55 = true := by kernel_rfl
theorem callable_56 : callable Tryd.prog 56 = true := by kernel_rfl
theorem callable_57 : callable Tryd.prog 57 = true := by kernel_rfl
theorem callable_58 : callable Tryd.prog 58 = true := by kernel_rfl
theorem callable_59 : callable Tryd.prog 59 = true := by kernel_rfl
theorem callable_60 : callable Tryd.prog 60 = true := by kernel_rfl
theorem callable_61 : callable Tryd.prog 61 = true := by kernel_rfl
theorem callable_62 : callable Tryd.prog 62 = true := by kernel_rfl
theorem callable_63 : callable Tryd.prog 63 = true := by kernel_rfl
theorem callable_64 : callable Tryd.prog 64 = true := by kernel_rfl
theorem callable_65 : callable Tryd.prog 65 = true := by kernel_rfl
theorem callable_66 : callable Tryd.prog 66 = true := by kernel_rfl
theorem callable_67 : callable Tryd.prog 67 = true := by kernel_rfl
theorem callable_68 : callable Tryd.prog 68 = true := by kernel_rfl
theorem callable_69 : callable Tryd.prog 69 = true := by kernel_rfl
theorem callable_70 : callable Tryd.prog 70 = true := by kernel_rfl
theorem callable_71 : callable Tryd.prog 71 = true := by kernel_rfl
theorem callable_72 : callable Tryd.prog 72 = true := by kernel_rfl
theorem callable_73 : callable Tryd.prog 73 = true := by kernel_rfl
theorem callable_74 : callable Tryd.prog 74 = true := by kernel_rfl
theorem callable_75 : callable Tryd.prog 75 = true := by kernel_rfl
theorem callable_76 : callable Tryd.prog 76 = true := by kernel_rfl
theorem callable_78 : callable Tryd.prog 78 = true := by kernel_rfl
theorem callable_79 : callable Tryd.prog 79 = true := by kernel_rfl
theorem callable_82 : callable Tryd.prog 82 = true := by kernel_rfl
theorem callable_83 : callable Tryd.prog 83 = true := by kernel_rfl
theorem callable_84 : callable Tryd.prog 84 = true := by kernel_rfl
theorem callable_85 : callable Tryd.prog 85 = true := by kernel_rfl
theorem callable_86 : callable Tryd.prog 86 = true := by kernel_rfl
theorem callable_87 : callable Tryd.prog 87 = true := by kernel_rfl
theorem callable_111 : callable Tryd.prog 111 = true := by kernel_rfl
theorem mixed : Tryd.prog.follows .mixedOrders = true := by kernel_rfl
end Go.Proofs.YthhogfnghaikaaaDoor.T
