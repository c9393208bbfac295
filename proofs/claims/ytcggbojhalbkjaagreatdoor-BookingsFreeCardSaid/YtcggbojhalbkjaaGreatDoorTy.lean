/- Closed facts on the types and functions of the program. -/
import Derived.Test.YtcggbojhalbkjaaGreatDoorProg
import Derived.Test.YtcggbojhalbkjaaGreatDoorSc
namespace Go.Proofs.YtcggbojhalbkjaaGreatDoor

theorem sc1 : scalarB Tryz.prog 1 = true := by kernel_rfl
theorem sc2 : scalarB Tryz.prog 2 = true := by kernel_rfl
theorem zc2 : zeroCs Tryz.prog 2 = some [.int .i64 0] := by kernel_rfl
theorem sc3 : scalarB Tryz.prog 3 = true := by kernel_rfl
theorem zc3 : zeroCs Tryz.prog 3 = some [.int .i64 0] := by kernel_rfl
theorem sc4 : scalarB Tryz.prog 4 = true := by kernel_rfl
theorem zc4 : zeroCs Tryz.prog 4 = some [.bool false] := by kernel_rfl
theorem sc5 : scalarB Tryz.prog 5 = true := by kernel_rfl
theorem zc5 : zeroCs Tryz.prog 5 = some [.int .u8 0] := by kernel_rfl
theorem rz7 : rowSz Tryz.prog 7 = some 4 := by kernel_rfl
theorem fo7_0 : fieldOff Tryz.prog 7 0 = some 0 := by kernel_rfl
theorem fo7_1 : fieldOff Tryz.prog 7 1 = some 1 := by kernel_rfl
theorem fo7_2 : fieldOff Tryz.prog 7 2 = some 2 := by kernel_rfl
theorem fo7_3 : fieldOff Tryz.prog 7 3 = some 3 := by kernel_rfl
theorem zc7 : zeroCs Tryz.prog 7 = some [.int .i64 0, .int .i64 0, .bool false, .int .u8 0] := by kernel_rfl
theorem sc9 : scalarB Tryz.prog 9 = true := by kernel_rfl
theorem us9 : Tryz.prog.underlying 9 = some .string := by kernel_rfl
theorem zc9 : zeroCs Tryz.prog 9 = some [.string ⟨#[]⟩] := by kernel_rfl
theorem sc12 : scalarB Tryz.prog 12 = true := by kernel_rfl
theorem zc12 : zeroCs Tryz.prog 12 = some [.int .u64 0] := by kernel_rfl
theorem rz13 : rowSz Tryz.prog 13 = some 2 := by kernel_rfl
theorem fo13_0 : fieldOff Tryz.prog 13 0 = some 0 := by kernel_rfl
theorem fo13_1 : fieldOff Tryz.prog 13 1 = some 1 := by kernel_rfl
theorem zc13 : zeroCs Tryz.prog 13 = some [.string ⟨#[]⟩, .int .u64 0] := by kernel_rfl
theorem sc15 : scalarB Tryz.prog 15 = true := by kernel_rfl
theorem sc16 : scalarB Tryz.prog 16 = true := by kernel_rfl
theorem sc17 : scalarB Tryz.prog 17 = true := by kernel_rfl
theorem rz18 : rowSz Tryz.prog 18 = some 1 := by kernel_rfl
theorem fo18_0 : fieldOff Tryz.prog 18 0 = some 0 := by kernel_rfl
theorem zc18 : zeroCs Tryz.prog 18 = some [.pointer none] := by kernel_rfl
theorem sc21 : scalarB Tryz.prog 21 = true := by kernel_rfl
theorem zc21 : zeroCs Tryz.prog 21 = some [.int .i32 0] := by kernel_rfl
theorem sc22 : scalarB Tryz.prog 22 = true := by kernel_rfl
theorem es22 : elemSz Tryz.prog 22 = some (3, 1) := by kernel_rfl
theorem ap22 : appB Tryz.prog 22 = some (3, 1, 8) := by kernel_rfl
theorem zc22 : zeroCs Tryz.prog 22 = some [.slice none 0 0] := by kernel_rfl
theorem sc23 : scalarB Tryz.prog 23 = true := by kernel_rfl
theorem rz24 : rowSz Tryz.prog 24 = some 2 := by kernel_rfl
theorem fo24_0 : fieldOff Tryz.prog 24 0 = some 0 := by kernel_rfl
theorem fo24_1 : fieldOff Tryz.prog 24 1 = some 1 := by kernel_rfl
theorem zc24 : zeroCs Tryz.prog 24 = some [.slice none 0 0, .int .i64 0] := by kernel_rfl
theorem rz25 : rowSz Tryz.prog 25 = some 2 := by kernel_rfl
theorem fo25_0 : fieldOff Tryz.prog 25 0 = some 0 := by kernel_rfl
theorem fo25_1 : fieldOff Tryz.prog 25 1 = some 1 := by kernel_rfl
theorem zc25 : zeroCs Tryz.prog 25 = some [.slice none 0 0, .int .i64 0] := by kernel_rfl
theorem sc26 : scalarB Tryz.prog 26 = true := by kernel_rfl
theorem es26 : elemSz Tryz.prog 26 = some (120, 7) := by kernel_rfl
theorem ap26 : appB Tryz.prog 26 = some (120, 7, 64) := by kernel_rfl
theorem zc26 : zeroCs Tryz.prog 26 = some [.slice none 0 0] := by kernel_rfl
theorem sc27 : scalarB Tryz.prog 27 = true := by kernel_rfl
theorem es27 : elemSz Tryz.prog 27 = some (177, 4) := by kernel_rfl
theorem ap27 : appB Tryz.prog 27 = some (177, 4, 40) := by kernel_rfl
theorem zc27 : zeroCs Tryz.prog 27 = some [.slice none 0 0] := by kernel_rfl
theorem sc28 : scalarB Tryz.prog 28 = true := by kernel_rfl
theorem es28 : elemSz Tryz.prog 28 = some (181, 3) := by kernel_rfl
theorem ap28 : appB Tryz.prog 28 = some (181, 3, 40) := by kernel_rfl
theorem zc28 : zeroCs Tryz.prog 28 = some [.slice none 0 0] := by kernel_rfl
theorem sc29 : scalarB Tryz.prog 29 = true := by kernel_rfl
theorem es29 : elemSz Tryz.prog 29 = some (183, 6) := by kernel_rfl
theorem ap29 : appB Tryz.prog 29 = some (183, 6, 64) := by kernel_rfl
theorem zc29 : zeroCs Tryz.prog 29 = some [.slice none 0 0] := by kernel_rfl
theorem sc30 : scalarB Tryz.prog 30 = true := by kernel_rfl
theorem es30 : elemSz Tryz.prog 30 = some (186, 4) := by kernel_rfl
theorem ap30 : appB Tryz.prog 30 = some (186, 4, 56) := by kernel_rfl
theorem zc30 : zeroCs Tryz.prog 30 = some [.slice none 0 0] := by kernel_rfl
theorem rz31 : rowSz Tryz.prog 31 = some 5 := by kernel_rfl
theorem fo31_0 : fieldOff Tryz.prog 31 0 = some 0 := by kernel_rfl
theorem fo31_1 : fieldOff Tryz.prog 31 1 = some 1 := by kernel_rfl
theorem fo31_2 : fieldOff Tryz.prog 31 2 = some 2 := by kernel_rfl
theorem fo31_3 : fieldOff Tryz.prog 31 3 = some 3 := by kernel_rfl
theorem fo31_4 : fieldOff Tryz.prog 31 4 = some 4 := by kernel_rfl
theorem zc31 : zeroCs Tryz.prog 31 = some [.slice none 0 0, .slice none 0 0, .slice none 0 0, .slice none 0 0, .slice none 0 0] := by kernel_rfl
theorem rz32 : rowSz Tryz.prog 32 = some 5 := by kernel_rfl
theorem fo32_0 : fieldOff Tryz.prog 32 0 = some 0 := by kernel_rfl
theorem fo32_1 : fieldOff Tryz.prog 32 1 = some 1 := by kernel_rfl
theorem fo32_2 : fieldOff Tryz.prog 32 2 = some 2 := by kernel_rfl
theorem fo32_3 : fieldOff Tryz.prog 32 3 = some 3 := by kernel_rfl
theorem fo32_4 : fieldOff Tryz.prog 32 4 = some 4 := by kernel_rfl
theorem zc32 : zeroCs Tryz.prog 32 = some [.slice none 0 0, .slice none 0 0, .slice none 0 0, .slice none 0 0, .slice none 0 0] := by kernel_rfl
theorem sc33 : scalarB Tryz.prog 33 = true := by kernel_rfl
theorem rz34 : rowSz Tryz.prog 34 = some 2 := by kernel_rfl
theorem fo34_0 : fieldOff Tryz.prog 34 0 = some 0 := by kernel_rfl
theorem fo34_1 : fieldOff Tryz.prog 34 1 = some 1 := by kernel_rfl
theorem zc34 : zeroCs Tryz.prog 34 = some [.int .i64 0, .int .i64 0] := by kernel_rfl
theorem rz35 : rowSz Tryz.prog 35 = some 2 := by kernel_rfl
theorem fo35_0 : fieldOff Tryz.prog 35 0 = some 0 := by kernel_rfl
theorem fo35_1 : fieldOff Tryz.prog 35 1 = some 1 := by kernel_rfl
theorem zc35 : zeroCs Tryz.prog 35 = some [.int .i64 0, .int .i64 0] := by kernel_rfl
theorem sc36 : scalarB Tryz.prog 36 = true := by kernel_rfl
theorem es36 : elemSz Tryz.prog 36 = some (9, 1) := by kernel_rfl
theorem ap36 : appB Tryz.prog 36 = some (9, 1, 16) := by kernel_rfl
theorem zc36 : zeroCs Tryz.prog 36 = some [.slice none 0 0] := by kernel_rfl
theorem rz37 : rowSz Tryz.prog 37 = some 7 := by kernel_rfl
theorem fo37_0 : fieldOff Tryz.prog 37 0 = some 0 := by kernel_rfl
theorem fo37_1 : fieldOff Tryz.prog 37 1 = some 1 := by kernel_rfl
theorem fo37_2 : fieldOff Tryz.prog 37 2 = some 3 := by kernel_rfl
theorem fo37_3 : fieldOff Tryz.prog 37 3 = some 4 := by kernel_rfl
theorem fo37_4 : fieldOff Tryz.prog 37 4 = some 5 := by kernel_rfl
theorem fo37_5 : fieldOff Tryz.prog 37 5 = some 6 := by kernel_rfl
theorem zc37 : zeroCs Tryz.prog 37 = some [.string ⟨#[]⟩, .int .i64 0, .int .i64 0, .string ⟨#[]⟩, .string ⟨#[]⟩, .slice none 0 0, .slice none 0 0] := by kernel_rfl
theorem rz38 : rowSz Tryz.prog 38 = some 7 := by kernel_rfl
theorem fo38_0 : fieldOff Tryz.prog 38 0 = some 0 := by kernel_rfl
theorem fo38_1 : fieldOff Tryz.prog 38 1 = some 1 := by kernel_rfl
theorem fo38_2 : fieldOff Tryz.prog 38 2 = some 3 := by kernel_rfl
theorem fo38_3 : fieldOff Tryz.prog 38 3 = some 4 := by kernel_rfl
theorem fo38_4 : fieldOff Tryz.prog 38 4 = some 5 := by kernel_rfl
theorem fo38_5 : fieldOff Tryz.prog 38 5 = some 6 := by kernel_rfl
theorem zc38 : zeroCs Tryz.prog 38 = some [.string ⟨#[]⟩, .int .i64 0, .int .i64 0, .string ⟨#[]⟩, .string ⟨#[]⟩, .slice none 0 0, .slice none 0 0] := by kernel_rfl
theorem sc39 : scalarB Tryz.prog 39 = true := by kernel_rfl
theorem sc40 : scalarB Tryz.prog 40 = true := by kernel_rfl
theorem es40 : elemSz Tryz.prog 40 = some (47, 3) := by kernel_rfl
theorem ap40 : appB Tryz.prog 40 = some (47, 3, 32) := by kernel_rfl
theorem zc40 : zeroCs Tryz.prog 40 = some [.slice none 0 0] := by kernel_rfl
theorem sc41 : scalarB Tryz.prog 41 = true := by kernel_rfl
theorem zc41 : zeroCs Tryz.prog 41 = some [.int .i64 0] := by kernel_rfl
theorem sc43 : scalarB Tryz.prog 43 = true := by kernel_rfl
theorem sc44 : scalarB Tryz.prog 44 = true := by kernel_rfl
theorem sc45 : scalarB Tryz.prog 45 = true := by kernel_rfl
theorem rz46 : rowSz Tryz.prog 46 = some 3 := by kernel_rfl
theorem fo46_0 : fieldOff Tryz.prog 46 0 = some 0 := by kernel_rfl
theorem fo46_1 : fieldOff Tryz.prog 46 1 = some 1 := by kernel_rfl
theorem fo46_2 : fieldOff Tryz.prog 46 2 = some 2 := by kernel_rfl
theorem zc46 : zeroCs Tryz.prog 46 = some [.int .i64 0, .string ⟨#[]⟩, .int .i64 0] := by kernel_rfl
theorem rz47 : rowSz Tryz.prog 47 = some 3 := by kernel_rfl
theorem fo47_0 : fieldOff Tryz.prog 47 0 = some 0 := by kernel_rfl
theorem fo47_1 : fieldOff Tryz.prog 47 1 = some 1 := by kernel_rfl
theorem fo47_2 : fieldOff Tryz.prog 47 2 = some 2 := by kernel_rfl
theorem zc47 : zeroCs Tryz.prog 47 = some [.int .i64 0, .string ⟨#[]⟩, .int .i64 0] := by kernel_rfl
theorem sc48 : scalarB Tryz.prog 48 = true := by kernel_rfl
theorem sc49 : scalarB Tryz.prog 49 = true := by kernel_rfl
theorem sc50 : scalarB Tryz.prog 50 = true := by kernel_rfl
theorem es50 : elemSz Tryz.prog 50 = some (135, 2) := by kernel_rfl
theorem ap50 : appB Tryz.prog 50 = some (135, 2, 32) := by kernel_rfl
theorem zc50 : zeroCs Tryz.prog 50 = some [.slice none 0 0] := by kernel_rfl
theorem sc51 : scalarB Tryz.prog 51 = true := by kernel_rfl
theorem es51 : elemSz Tryz.prog 51 = some (139, 2) := by kernel_rfl
theorem ap51 : appB Tryz.prog 51 = some (139, 2, 24) := by kernel_rfl
theorem zc51 : zeroCs Tryz.prog 51 = some [.slice none 0 0] := by kernel_rfl
theorem sc52 : scalarB Tryz.prog 52 = true := by kernel_rfl
theorem es52 : elemSz Tryz.prog 52 = some (142, 6) := by kernel_rfl
theorem ap52 : appB Tryz.prog 52 = some (142, 6, 64) := by kernel_rfl
theorem zc52 : zeroCs Tryz.prog 52 = some [.slice none 0 0] := by kernel_rfl
theorem rz53 : rowSz Tryz.prog 53 = some 5 := by kernel_rfl
theorem fo53_0 : fieldOff Tryz.prog 53 0 = some 0 := by kernel_rfl
theorem fo53_1 : fieldOff Tryz.prog 53 1 = some 1 := by kernel_rfl
theorem fo53_2 : fieldOff Tryz.prog 53 2 = some 2 := by kernel_rfl
theorem fo53_3 : fieldOff Tryz.prog 53 3 = some 3 := by kernel_rfl
theorem fo53_4 : fieldOff Tryz.prog 53 4 = some 4 := by kernel_rfl
theorem zc53 : zeroCs Tryz.prog 53 = some [.slice none 0 0, .slice none 0 0, .slice none 0 0, .int .i64 0, .int .i64 0] := by kernel_rfl
theorem rz54 : rowSz Tryz.prog 54 = some 5 := by kernel_rfl
theorem fo54_0 : fieldOff Tryz.prog 54 0 = some 0 := by kernel_rfl
theorem fo54_1 : fieldOff Tryz.prog 54 1 = some 1 := by kernel_rfl
theorem fo54_2 : fieldOff Tryz.prog 54 2 = some 2 := by kernel_rfl
theorem fo54_3 : fieldOff Tryz.prog 54 3 = some 3 := by kernel_rfl
theorem fo54_4 : fieldOff Tryz.prog 54 4 = some 4 := by kernel_rfl
theorem zc54 : zeroCs Tryz.prog 54 = some [.slice none 0 0, .slice none 0 0, .slice none 0 0, .int .i64 0, .int .i64 0] := by kernel_rfl
theorem sc55 : scalarB Tryz.prog 55 = true := by kernel_rfl
theorem sc56 : scalarB Tryz.prog 56 = true := by kernel_rfl
theorem sc57 : scalarB Tryz.prog 57 = true := by kernel_rfl
theorem sc58 : scalarB Tryz.prog 58 = true := by kernel_rfl
theorem sc60 : scalarB Tryz.prog 60 = true := by kernel_rfl
theorem sc62 : scalarB Tryz.prog 62 = true := by kernel_rfl
theorem sc63 : scalarB Tryz.prog 63 = true := by kernel_rfl
theorem sc64 : scalarB Tryz.prog 64 = true := by kernel_rfl
theorem sc65 : scalarB Tryz.prog 65 = true := by kernel_rfl
theorem sc66 : scalarB Tryz.prog 66 = true := by kernel_rfl
theorem sc67 : scalarB Tryz.prog 67 = true := by kernel_rfl
theorem sc68 : scalarB Tryz.prog 68 = true := by kernel_rfl
theorem sc70 : scalarB Tryz.prog 70 = true := by kernel_rfl
theorem sc71 : scalarB Tryz.prog 71 = true := by kernel_rfl
theorem sc72 : scalarB Tryz.prog 72 = true := by kernel_rfl
theorem es72 : elemSz Tryz.prog 72 = some (152, 15) := by kernel_rfl
theorem ap72 : appB Tryz.prog 72 = some (152, 15, 128) := by kernel_rfl
theorem zc72 : zeroCs Tryz.prog 72 = some [.slice none 0 0] := by kernel_rfl
theorem sc73 : scalarB Tryz.prog 73 = true := by kernel_rfl
theorem es73 : elemSz Tryz.prog 73 = some (154, 2) := by kernel_rfl
theorem ap73 : appB Tryz.prog 73 = some (154, 2, 32) := by kernel_rfl
theorem zc73 : zeroCs Tryz.prog 73 = some [.slice none 0 0] := by kernel_rfl
theorem sc74 : scalarB Tryz.prog 74 = true := by kernel_rfl
theorem es74 : elemSz Tryz.prog 74 = some (156, 3) := by kernel_rfl
theorem ap74 : appB Tryz.prog 74 = some (156, 3, 40) := by kernel_rfl
theorem zc74 : zeroCs Tryz.prog 74 = some [.slice none 0 0] := by kernel_rfl
theorem rz75 : rowSz Tryz.prog 75 = some 4 := by kernel_rfl
theorem fo75_0 : fieldOff Tryz.prog 75 0 = some 0 := by kernel_rfl
theorem fo75_1 : fieldOff Tryz.prog 75 1 = some 1 := by kernel_rfl
theorem fo75_2 : fieldOff Tryz.prog 75 2 = some 2 := by kernel_rfl
theorem fo75_3 : fieldOff Tryz.prog 75 3 = some 3 := by kernel_rfl
theorem zc75 : zeroCs Tryz.prog 75 = some [.slice none 0 0, .slice none 0 0, .slice none 0 0, .slice none 0 0] := by kernel_rfl
theorem rz76 : rowSz Tryz.prog 76 = some 4 := by kernel_rfl
theorem fo76_0 : fieldOff Tryz.prog 76 0 = some 0 := by kernel_rfl
theorem fo76_1 : fieldOff Tryz.prog 76 1 = some 1 := by kernel_rfl
theorem fo76_2 : fieldOff Tryz.prog 76 2 = some 2 := by kernel_rfl
theorem fo76_3 : fieldOff Tryz.prog 76 3 = some 3 := by kernel_rfl
theorem zc76 : zeroCs Tryz.prog 76 = some [.slice none 0 0, .slice none 0 0, .slice none 0 0, .slice none 0 0] := by kernel_rfl
theorem sc77 : scalarB Tryz.prog 77 = true := by kernel_rfl
theorem sc78 : scalarB Tryz.prog 78 = true := by kernel_rfl
theorem sc80 : scalarB Tryz.prog 80 = true := by kernel_rfl
theorem sc81 : scalarB Tryz.prog 81 = true := by kernel_rfl
theorem sc82 : scalarB Tryz.prog 82 = true := by kernel_rfl
theorem sc83 : scalarB Tryz.prog 83 = true := by kernel_rfl
theorem sc84 : scalarB Tryz.prog 84 = true := by kernel_rfl
theorem sc86 : scalarB Tryz.prog 86 = true := by kernel_rfl
theorem sc87 : scalarB Tryz.prog 87 = true := by kernel_rfl
theorem sc88 : scalarB Tryz.prog 88 = true := by kernel_rfl
theorem sc89 : scalarB Tryz.prog 89 = true := by kernel_rfl
theorem sc90 : scalarB Tryz.prog 90 = true := by kernel_rfl
theorem sc91 : scalarB Tryz.prog 91 = true := by kernel_rfl
theorem sc92 : scalarB Tryz.prog 92 = true := by kernel_rfl
theorem sc93 : scalarB Tryz.prog 93 = true := by kernel_rfl
theorem es93 : elemSz Tryz.prog 93 = some (36, 1) := by kernel_rfl
theorem ap93 : appB Tryz.prog 93 = some (36, 1, 24) := by kernel_rfl
theorem zc93 : zeroCs Tryz.prog 93 = some [.slice none 0 0] := by kernel_rfl
theorem sc94 : scalarB Tryz.prog 94 = true := by kernel_rfl
theorem sc95 : scalarB Tryz.prog 95 = true := by kernel_rfl
theorem sc96 : scalarB Tryz.prog 96 = true := by kernel_rfl
theorem sc97 : scalarB Tryz.prog 97 = true := by kernel_rfl
theorem sc98 : scalarB Tryz.prog 98 = true := by kernel_rfl
theorem sc99 : scalarB Tryz.prog 99 = true := by kernel_rfl
theorem sc100 : scalarB Tryz.prog 100 = true := by kernel_rfl
theorem sc101 : scalarB Tryz.prog 101 = true := by kernel_rfl
theorem es101 : elemSz Tryz.prog 101 = some (41, 1) := by kernel_rfl
theorem ap101 : appB Tryz.prog 101 = some (41, 1, 8) := by kernel_rfl
theorem zc101 : zeroCs Tryz.prog 101 = some [.slice none 0 0] := by kernel_rfl
theorem sc102 : scalarB Tryz.prog 102 = true := by kernel_rfl
theorem sc103 : scalarB Tryz.prog 103 = true := by kernel_rfl
theorem es103 : elemSz Tryz.prog 103 = some (110, 3) := by kernel_rfl
theorem ap103 : appB Tryz.prog 103 = some (110, 3, 24) := by kernel_rfl
theorem zc103 : zeroCs Tryz.prog 103 = some [.slice none 0 0] := by kernel_rfl
theorem sc105 : scalarB Tryz.prog 105 = true := by kernel_rfl
theorem sc106 : scalarB Tryz.prog 106 = true := by kernel_rfl
theorem sc108 : scalarB Tryz.prog 108 = true := by kernel_rfl
theorem rz109 : rowSz Tryz.prog 109 = some 3 := by kernel_rfl
theorem fo109_0 : fieldOff Tryz.prog 109 0 = some 0 := by kernel_rfl
theorem fo109_1 : fieldOff Tryz.prog 109 1 = some 1 := by kernel_rfl
theorem fo109_2 : fieldOff Tryz.prog 109 2 = some 2 := by kernel_rfl
theorem zc109 : zeroCs Tryz.prog 109 = some [.int .i64 0, .int .i64 0, .int .i64 0] := by kernel_rfl
theorem rz110 : rowSz Tryz.prog 110 = some 3 := by kernel_rfl
theorem fo110_0 : fieldOff Tryz.prog 110 0 = some 0 := by kernel_rfl
theorem fo110_1 : fieldOff Tryz.prog 110 1 = some 1 := by kernel_rfl
theorem fo110_2 : fieldOff Tryz.prog 110 2 = some 2 := by kernel_rfl
theorem zc110 : zeroCs Tryz.prog 110 = some [.int .i64 0, .int .i64 0, .int .i64 0] := by kernel_rfl
theorem sc112 : scalarB Tryz.prog 112 = true := by kernel_rfl
theorem sc113 : scalarB Tryz.prog 113 = true := by kernel_rfl
theorem sc114 : scalarB Tryz.prog 114 = true := by kernel_rfl
theorem sc115 : scalarB Tryz.prog 115 = true := by kernel_rfl
theorem sc116 : scalarB Tryz.prog 116 = true := by kernel_rfl
theorem sc118 : scalarB Tryz.prog 118 = true := by kernel_rfl
theorem rz119 : rowSz Tryz.prog 119 = some 7 := by kernel_rfl
theorem fo119_0 : fieldOff Tryz.prog 119 0 = some 0 := by kernel_rfl
theorem fo119_1 : fieldOff Tryz.prog 119 1 = some 1 := by kernel_rfl
theorem fo119_2 : fieldOff Tryz.prog 119 2 = some 2 := by kernel_rfl
theorem fo119_3 : fieldOff Tryz.prog 119 3 = some 3 := by kernel_rfl
theorem fo119_4 : fieldOff Tryz.prog 119 4 = some 4 := by kernel_rfl
theorem fo119_5 : fieldOff Tryz.prog 119 5 = some 5 := by kernel_rfl
theorem fo119_6 : fieldOff Tryz.prog 119 6 = some 6 := by kernel_rfl
theorem zc119 : zeroCs Tryz.prog 119 = some [.string ⟨#[]⟩, .int .i64 0, .int .i64 0, .int .i64 0, .int .i64 0, .int .i64 0, .int .i64 0] := by kernel_rfl
theorem rz120 : rowSz Tryz.prog 120 = some 7 := by kernel_rfl
theorem fo120_0 : fieldOff Tryz.prog 120 0 = some 0 := by kernel_rfl
theorem fo120_1 : fieldOff Tryz.prog 120 1 = some 1 := by kernel_rfl
theorem fo120_2 : fieldOff Tryz.prog 120 2 = some 2 := by kernel_rfl
theorem fo120_3 : fieldOff Tryz.prog 120 3 = some 3 := by kernel_rfl
theorem fo120_4 : fieldOff Tryz.prog 120 4 = some 4 := by kernel_rfl
theorem fo120_5 : fieldOff Tryz.prog 120 5 = some 5 := by kernel_rfl
theorem fo120_6 : fieldOff Tryz.prog 120 6 = some 6 := by kernel_rfl
theorem zc120 : zeroCs Tryz.prog 120 = some [.string ⟨#[]⟩, .int .i64 0, .int .i64 0, .int .i64 0, .int .i64 0, .int .i64 0, .int .i64 0] := by kernel_rfl
theorem sc121 : scalarB Tryz.prog 121 = true := by kernel_rfl
theorem sc122 : scalarB Tryz.prog 122 = true := by kernel_rfl
theorem sc123 : scalarB Tryz.prog 123 = true := by kernel_rfl
theorem sc124 : scalarB Tryz.prog 124 = true := by kernel_rfl
theorem sc125 : scalarB Tryz.prog 125 = true := by kernel_rfl
theorem sc126 : scalarB Tryz.prog 126 = true := by kernel_rfl
theorem sc127 : scalarB Tryz.prog 127 = true := by kernel_rfl
theorem sc128 : scalarB Tryz.prog 128 = true := by kernel_rfl
theorem sc129 : scalarB Tryz.prog 129 = true := by kernel_rfl
theorem es129 : elemSz Tryz.prog 129 = some (35, 2) := by kernel_rfl
theorem ap129 : appB Tryz.prog 129 = some (35, 2, 16) := by kernel_rfl
theorem zc129 : zeroCs Tryz.prog 129 = some [.slice none 0 0] := by kernel_rfl
theorem sc130 : scalarB Tryz.prog 130 = true := by kernel_rfl
theorem sc131 : scalarB Tryz.prog 131 = true := by kernel_rfl
theorem sc132 : scalarB Tryz.prog 132 = true := by kernel_rfl
theorem sc133 : scalarB Tryz.prog 133 = true := by kernel_rfl
theorem rz134 : rowSz Tryz.prog 134 = some 2 := by kernel_rfl
theorem fo134_0 : fieldOff Tryz.prog 134 0 = some 0 := by kernel_rfl
theorem fo134_1 : fieldOff Tryz.prog 134 1 = some 1 := by kernel_rfl
theorem zc134 : zeroCs Tryz.prog 134 = some [.string ⟨#[]⟩, .string ⟨#[]⟩] := by kernel_rfl
theorem rz135 : rowSz Tryz.prog 135 = some 2 := by kernel_rfl
theorem fo135_0 : fieldOff Tryz.prog 135 0 = some 0 := by kernel_rfl
theorem fo135_1 : fieldOff Tryz.prog 135 1 = some 1 := by kernel_rfl
theorem zc135 : zeroCs Tryz.prog 135 = some [.string ⟨#[]⟩, .string ⟨#[]⟩] := by kernel_rfl
theorem sc136 : scalarB Tryz.prog 136 = true := by kernel_rfl
theorem sc137 : scalarB Tryz.prog 137 = true := by kernel_rfl
theorem rz138 : rowSz Tryz.prog 138 = some 2 := by kernel_rfl
theorem fo138_0 : fieldOff Tryz.prog 138 0 = some 0 := by kernel_rfl
theorem fo138_1 : fieldOff Tryz.prog 138 1 = some 1 := by kernel_rfl
theorem zc138 : zeroCs Tryz.prog 138 = some [.string ⟨#[]⟩, .int .i64 0] := by kernel_rfl
theorem rz139 : rowSz Tryz.prog 139 = some 2 := by kernel_rfl
theorem fo139_0 : fieldOff Tryz.prog 139 0 = some 0 := by kernel_rfl
theorem fo139_1 : fieldOff Tryz.prog 139 1 = some 1 := by kernel_rfl
theorem zc139 : zeroCs Tryz.prog 139 = some [.string ⟨#[]⟩, .int .i64 0] := by kernel_rfl
theorem sc140 : scalarB Tryz.prog 140 = true := by kernel_rfl
theorem rz141 : rowSz Tryz.prog 141 = some 6 := by kernel_rfl
theorem fo141_0 : fieldOff Tryz.prog 141 0 = some 0 := by kernel_rfl
theorem fo141_1 : fieldOff Tryz.prog 141 1 = some 1 := by kernel_rfl
theorem fo141_2 : fieldOff Tryz.prog 141 2 = some 2 := by kernel_rfl
theorem fo141_3 : fieldOff Tryz.prog 141 3 = some 4 := by kernel_rfl
theorem fo141_4 : fieldOff Tryz.prog 141 4 = some 5 := by kernel_rfl
theorem zc141 : zeroCs Tryz.prog 141 = some [.string ⟨#[]⟩, .string ⟨#[]⟩, .int .i64 0, .int .i64 0, .int .i64 0, .int .i64 0] := by kernel_rfl
theorem rz142 : rowSz Tryz.prog 142 = some 6 := by kernel_rfl
theorem fo142_0 : fieldOff Tryz.prog 142 0 = some 0 := by kernel_rfl
theorem fo142_1 : fieldOff Tryz.prog 142 1 = some 1 := by kernel_rfl
theorem fo142_2 : fieldOff Tryz.prog 142 2 = some 2 := by kernel_rfl
theorem fo142_3 : fieldOff Tryz.prog 142 3 = some 4 := by kernel_rfl
theorem fo142_4 : fieldOff Tryz.prog 142 4 = some 5 := by kernel_rfl
theorem zc142 : zeroCs Tryz.prog 142 = some [.string ⟨#[]⟩, .string ⟨#[]⟩, .int .i64 0, .int .i64 0, .int .i64 0, .int .i64 0] := by kernel_rfl
theorem sc143 : scalarB Tryz.prog 143 = true := by kernel_rfl
theorem sc144 : scalarB Tryz.prog 144 = true := by kernel_rfl
theorem es144 : elemSz Tryz.prog 144 = some (149, 2) := by kernel_rfl
theorem ap144 : appB Tryz.prog 144 = some (149, 2, 16) := by kernel_rfl
theorem zc144 : zeroCs Tryz.prog 144 = some [.slice none 0 0] := by kernel_rfl
theorem sc146 : scalarB Tryz.prog 146 = true := by kernel_rfl
theorem sc147 : scalarB Tryz.prog 147 = true := by kernel_rfl
theorem rz148 : rowSz Tryz.prog 148 = some 2 := by kernel_rfl
theorem fo148_0 : fieldOff Tryz.prog 148 0 = some 0 := by kernel_rfl
theorem fo148_1 : fieldOff Tryz.prog 148 1 = some 1 := by kernel_rfl
theorem zc148 : zeroCs Tryz.prog 148 = some [.int .i64 0, .int .i64 0] := by kernel_rfl
theorem rz149 : rowSz Tryz.prog 149 = some 2 := by kernel_rfl
theorem fo149_0 : fieldOff Tryz.prog 149 0 = some 0 := by kernel_rfl
theorem fo149_1 : fieldOff Tryz.prog 149 1 = some 1 := by kernel_rfl
theorem zc149 : zeroCs Tryz.prog 149 = some [.int .i64 0, .int .i64 0] := by kernel_rfl
theorem rz150 : rowSz Tryz.prog 150 = some 14 := by kernel_rfl
theorem zc150 : zeroCs Tryz.prog 150 = some [.int .i64 0, .int .i64 0, .int .i64 0, .int .i64 0, .int .i64 0, .int .i64 0, .int .i64 0, .int .i64 0, .int .i64 0, .int .i64 0, .int .i64 0, .int .i64 0, .int .i64 0, .int .i64 0] := by kernel_rfl
theorem rz151 : rowSz Tryz.prog 151 = some 15 := by kernel_rfl
theorem fo151_0 : fieldOff Tryz.prog 151 0 = some 0 := by kernel_rfl
theorem fo151_1 : fieldOff Tryz.prog 151 1 = some 1 := by kernel_rfl
theorem zc151 : zeroCs Tryz.prog 151 = some [.string ⟨#[]⟩, .int .i64 0, .int .i64 0, .int .i64 0, .int .i64 0, .int .i64 0, .int .i64 0, .int .i64 0, .int .i64 0, .int .i64 0, .int .i64 0, .int .i64 0, .int .i64 0, .int .i64 0, .int .i64 0] := by kernel_rfl
theorem rz152 : rowSz Tryz.prog 152 = some 15 := by kernel_rfl
theorem fo152_0 : fieldOff Tryz.prog 152 0 = some 0 := by kernel_rfl
theorem fo152_1 : fieldOff Tryz.prog 152 1 = some 1 := by kernel_rfl
theorem zc152 : zeroCs Tryz.prog 152 = some [.string ⟨#[]⟩, .int .i64 0, .int .i64 0, .int .i64 0, .int .i64 0, .int .i64 0, .int .i64 0, .int .i64 0, .int .i64 0, .int .i64 0, .int .i64 0, .int .i64 0, .int .i64 0, .int .i64 0, .int .i64 0] := by kernel_rfl
theorem rz153 : rowSz Tryz.prog 153 = some 2 := by kernel_rfl
theorem fo153_0 : fieldOff Tryz.prog 153 0 = some 0 := by kernel_rfl
theorem fo153_1 : fieldOff Tryz.prog 153 1 = some 1 := by kernel_rfl
theorem zc153 : zeroCs Tryz.prog 153 = some [.string ⟨#[]⟩, .string ⟨#[]⟩] := by kernel_rfl
theorem rz154 : rowSz Tryz.prog 154 = some 2 := by kernel_rfl
theorem fo154_0 : fieldOff Tryz.prog 154 0 = some 0 := by kernel_rfl
theorem fo154_1 : fieldOff Tryz.prog 154 1 = some 1 := by kernel_rfl
theorem zc154 : zeroCs Tryz.prog 154 = some [.string ⟨#[]⟩, .string ⟨#[]⟩] := by kernel_rfl
theorem rz155 : rowSz Tryz.prog 155 = some 3 := by kernel_rfl
theorem fo155_0 : fieldOff Tryz.prog 155 0 = some 0 := by kernel_rfl
theorem fo155_1 : fieldOff Tryz.prog 155 1 = some 1 := by kernel_rfl
theorem fo155_2 : fieldOff Tryz.prog 155 2 = some 2 := by kernel_rfl
theorem zc155 : zeroCs Tryz.prog 155 = some [.int .i64 0, .string ⟨#[]⟩, .string ⟨#[]⟩] := by kernel_rfl
theorem rz156 : rowSz Tryz.prog 156 = some 3 := by kernel_rfl
theorem fo156_0 : fieldOff Tryz.prog 156 0 = some 0 := by kernel_rfl
theorem fo156_1 : fieldOff Tryz.prog 156 1 = some 1 := by kernel_rfl
theorem fo156_2 : fieldOff Tryz.prog 156 2 = some 2 := by kernel_rfl
theorem zc156 : zeroCs Tryz.prog 156 = some [.int .i64 0, .string ⟨#[]⟩, .string ⟨#[]⟩] := by kernel_rfl
theorem sc157 : scalarB Tryz.prog 157 = true := by kernel_rfl
theorem sc159 : scalarB Tryz.prog 159 = true := by kernel_rfl
theorem sc160 : scalarB Tryz.prog 160 = true := by kernel_rfl
theorem sc161 : scalarB Tryz.prog 161 = true := by kernel_rfl
theorem sc162 : scalarB Tryz.prog 162 = true := by kernel_rfl
theorem sc163 : scalarB Tryz.prog 163 = true := by kernel_rfl
theorem sc164 : scalarB Tryz.prog 164 = true := by kernel_rfl
theorem sc165 : scalarB Tryz.prog 165 = true := by kernel_rfl
theorem sc166 : scalarB Tryz.prog 166 = true := by kernel_rfl
theorem sc167 : scalarB Tryz.prog 167 = true := by kernel_rfl
theorem rz168 : rowSz Tryz.prog 168 = some 3 := by kernel_rfl
theorem fo168_0 : fieldOff Tryz.prog 168 0 = some 0 := by kernel_rfl
theorem fo168_1 : fieldOff Tryz.prog 168 1 = some 1 := by kernel_rfl
theorem fo168_2 : fieldOff Tryz.prog 168 2 = some 2 := by kernel_rfl
theorem zc168 : zeroCs Tryz.prog 168 = some [.int .i64 0, .string ⟨#[]⟩, .int .i64 0] := by kernel_rfl
theorem rz169 : rowSz Tryz.prog 169 = some 3 := by kernel_rfl
theorem fo169_0 : fieldOff Tryz.prog 169 0 = some 0 := by kernel_rfl
theorem fo169_1 : fieldOff Tryz.prog 169 1 = some 1 := by kernel_rfl
theorem fo169_2 : fieldOff Tryz.prog 169 2 = some 2 := by kernel_rfl
theorem zc169 : zeroCs Tryz.prog 169 = some [.int .i64 0, .string ⟨#[]⟩, .int .i64 0] := by kernel_rfl
theorem sc171 : scalarB Tryz.prog 171 = true := by kernel_rfl
theorem rz172 : rowSz Tryz.prog 172 = some 5 := by kernel_rfl
theorem fo172_0 : fieldOff Tryz.prog 172 0 = some 0 := by kernel_rfl
theorem fo172_1 : fieldOff Tryz.prog 172 1 = some 1 := by kernel_rfl
theorem fo172_2 : fieldOff Tryz.prog 172 2 = some 2 := by kernel_rfl
theorem fo172_3 : fieldOff Tryz.prog 172 3 = some 3 := by kernel_rfl
theorem fo172_4 : fieldOff Tryz.prog 172 4 = some 4 := by kernel_rfl
theorem zc172 : zeroCs Tryz.prog 172 = some [.int .i64 0, .string ⟨#[]⟩, .string ⟨#[]⟩, .int .i64 0, .string ⟨#[]⟩] := by kernel_rfl
theorem rz173 : rowSz Tryz.prog 173 = some 5 := by kernel_rfl
theorem fo173_0 : fieldOff Tryz.prog 173 0 = some 0 := by kernel_rfl
theorem fo173_1 : fieldOff Tryz.prog 173 1 = some 1 := by kernel_rfl
theorem fo173_2 : fieldOff Tryz.prog 173 2 = some 2 := by kernel_rfl
theorem fo173_3 : fieldOff Tryz.prog 173 3 = some 3 := by kernel_rfl
theorem fo173_4 : fieldOff Tryz.prog 173 4 = some 4 := by kernel_rfl
theorem zc173 : zeroCs Tryz.prog 173 = some [.int .i64 0, .string ⟨#[]⟩, .string ⟨#[]⟩, .int .i64 0, .string ⟨#[]⟩] := by kernel_rfl
theorem sc174 : scalarB Tryz.prog 174 = true := by kernel_rfl
theorem es174 : elemSz Tryz.prog 174 = some (173, 5) := by kernel_rfl
theorem ap174 : appB Tryz.prog 174 = some (173, 5, 64) := by kernel_rfl
theorem zc174 : zeroCs Tryz.prog 174 = some [.slice none 0 0] := by kernel_rfl
theorem sc175 : scalarB Tryz.prog 175 = true := by kernel_rfl
theorem rz176 : rowSz Tryz.prog 176 = some 4 := by kernel_rfl
theorem fo176_0 : fieldOff Tryz.prog 176 0 = some 0 := by kernel_rfl
theorem fo176_1 : fieldOff Tryz.prog 176 1 = some 1 := by kernel_rfl
theorem fo176_2 : fieldOff Tryz.prog 176 2 = some 2 := by kernel_rfl
theorem fo176_3 : fieldOff Tryz.prog 176 3 = some 3 := by kernel_rfl
theorem zc176 : zeroCs Tryz.prog 176 = some [.string ⟨#[]⟩, .int .i64 0, .int .i64 0, .int .i64 0] := by kernel_rfl
theorem rz177 : rowSz Tryz.prog 177 = some 4 := by kernel_rfl
theorem fo177_0 : fieldOff Tryz.prog 177 0 = some 0 := by kernel_rfl
theorem fo177_1 : fieldOff Tryz.prog 177 1 = some 1 := by kernel_rfl
theorem fo177_2 : fieldOff Tryz.prog 177 2 = some 2 := by kernel_rfl
theorem fo177_3 : fieldOff Tryz.prog 177 3 = some 3 := by kernel_rfl
theorem zc177 : zeroCs Tryz.prog 177 = some [.string ⟨#[]⟩, .int .i64 0, .int .i64 0, .int .i64 0] := by kernel_rfl
theorem rz178 : rowSz Tryz.prog 178 = some 2 := by kernel_rfl
theorem zc178 : zeroCs Tryz.prog 178 = some [.string ⟨#[]⟩, .string ⟨#[]⟩] := by kernel_rfl
theorem sc179 : scalarB Tryz.prog 179 = true := by kernel_rfl
theorem es179 : elemSz Tryz.prog 179 = some (178, 2) := by kernel_rfl
theorem ap179 : appB Tryz.prog 179 = some (178, 2, 32) := by kernel_rfl
theorem zc179 : zeroCs Tryz.prog 179 = some [.slice none 0 0] := by kernel_rfl
theorem rz180 : rowSz Tryz.prog 180 = some 3 := by kernel_rfl
theorem fo180_0 : fieldOff Tryz.prog 180 0 = some 0 := by kernel_rfl
theorem fo180_1 : fieldOff Tryz.prog 180 1 = some 1 := by kernel_rfl
theorem fo180_2 : fieldOff Tryz.prog 180 2 = some 2 := by kernel_rfl
theorem zc180 : zeroCs Tryz.prog 180 = some [.string ⟨#[]⟩, .string ⟨#[]⟩, .int .i64 0] := by kernel_rfl
theorem rz181 : rowSz Tryz.prog 181 = some 3 := by kernel_rfl
theorem fo181_0 : fieldOff Tryz.prog 181 0 = some 0 := by kernel_rfl
theorem fo181_1 : fieldOff Tryz.prog 181 1 = some 1 := by kernel_rfl
theorem fo181_2 : fieldOff Tryz.prog 181 2 = some 2 := by kernel_rfl
theorem zc181 : zeroCs Tryz.prog 181 = some [.string ⟨#[]⟩, .string ⟨#[]⟩, .int .i64 0] := by kernel_rfl
theorem rz182 : rowSz Tryz.prog 182 = some 6 := by kernel_rfl
theorem fo182_0 : fieldOff Tryz.prog 182 0 = some 0 := by kernel_rfl
theorem fo182_1 : fieldOff Tryz.prog 182 1 = some 1 := by kernel_rfl
theorem fo182_2 : fieldOff Tryz.prog 182 2 = some 2 := by kernel_rfl
theorem fo182_3 : fieldOff Tryz.prog 182 3 = some 3 := by kernel_rfl
theorem fo182_4 : fieldOff Tryz.prog 182 4 = some 4 := by kernel_rfl
theorem fo182_5 : fieldOff Tryz.prog 182 5 = some 5 := by kernel_rfl
theorem zc182 : zeroCs Tryz.prog 182 = some [.string ⟨#[]⟩, .string ⟨#[]⟩, .int .i64 0, .int .i64 0, .int .i64 0, .int .i64 0] := by kernel_rfl
theorem rz183 : rowSz Tryz.prog 183 = some 6 := by kernel_rfl
theorem fo183_0 : fieldOff Tryz.prog 183 0 = some 0 := by kernel_rfl
theorem fo183_1 : fieldOff Tryz.prog 183 1 = some 1 := by kernel_rfl
theorem fo183_2 : fieldOff Tryz.prog 183 2 = some 2 := by kernel_rfl
theorem fo183_3 : fieldOff Tryz.prog 183 3 = some 3 := by kernel_rfl
theorem fo183_4 : fieldOff Tryz.prog 183 4 = some 4 := by kernel_rfl
theorem fo183_5 : fieldOff Tryz.prog 183 5 = some 5 := by kernel_rfl
theorem zc183 : zeroCs Tryz.prog 183 = some [.string ⟨#[]⟩, .string ⟨#[]⟩, .int .i64 0, .int .i64 0, .int .i64 0, .int .i64 0] := by kernel_rfl
theorem sc184 : scalarB Tryz.prog 184 = true := by kernel_rfl
theorem rz185 : rowSz Tryz.prog 185 = some 4 := by kernel_rfl
theorem fo185_0 : fieldOff Tryz.prog 185 0 = some 0 := by kernel_rfl
theorem fo185_1 : fieldOff Tryz.prog 185 1 = some 1 := by kernel_rfl
theorem fo185_2 : fieldOff Tryz.prog 185 2 = some 2 := by kernel_rfl
theorem fo185_3 : fieldOff Tryz.prog 185 3 = some 3 := by kernel_rfl
theorem zc185 : zeroCs Tryz.prog 185 = some [.string ⟨#[]⟩, .int .i64 0, .slice none 0 0, .bool false] := by kernel_rfl
theorem rz186 : rowSz Tryz.prog 186 = some 4 := by kernel_rfl
theorem fo186_0 : fieldOff Tryz.prog 186 0 = some 0 := by kernel_rfl
theorem fo186_1 : fieldOff Tryz.prog 186 1 = some 1 := by kernel_rfl
theorem fo186_2 : fieldOff Tryz.prog 186 2 = some 2 := by kernel_rfl
theorem fo186_3 : fieldOff Tryz.prog 186 3 = some 3 := by kernel_rfl
theorem zc186 : zeroCs Tryz.prog 186 = some [.string ⟨#[]⟩, .int .i64 0, .slice none 0 0, .bool false] := by kernel_rfl
theorem sc187 : scalarB Tryz.prog 187 = true := by kernel_rfl
theorem sc188 : scalarB Tryz.prog 188 = true := by kernel_rfl
theorem sc189 : scalarB Tryz.prog 189 = true := by kernel_rfl
theorem sc191 : scalarB Tryz.prog 191 = true := by kernel_rfl
theorem sc192 : scalarB Tryz.prog 192 = true := by kernel_rfl
theorem sc193 : scalarB Tryz.prog 193 = true := by kernel_rfl
theorem sc194 : scalarB Tryz.prog 194 = true := by kernel_rfl
theorem sc195 : scalarB Tryz.prog 195 = true := by kernel_rfl
theorem sc196 : scalarB Tryz.prog 196 = true := by kernel_rfl
theorem sc197 : scalarB Tryz.prog 197 = true := by kernel_rfl
theorem rz198 : rowSz Tryz.prog 198 = some 5 := by kernel_rfl
theorem fo198_0 : fieldOff Tryz.prog 198 0 = some 0 := by kernel_rfl
theorem fo198_1 : fieldOff Tryz.prog 198 1 = some 1 := by kernel_rfl
theorem fo198_2 : fieldOff Tryz.prog 198 2 = some 2 := by kernel_rfl
theorem fo198_3 : fieldOff Tryz.prog 198 3 = some 4 := by kernel_rfl
theorem zc198 : zeroCs Tryz.prog 198 = some [.slice none 0 0, .string ⟨#[]⟩, .int .i64 0, .int .i64 0, .int .i64 0] := by kernel_rfl
theorem rz199 : rowSz Tryz.prog 199 = some 5 := by kernel_rfl
theorem fo199_0 : fieldOff Tryz.prog 199 0 = some 0 := by kernel_rfl
theorem fo199_1 : fieldOff Tryz.prog 199 1 = some 1 := by kernel_rfl
theorem fo199_2 : fieldOff Tryz.prog 199 2 = some 2 := by kernel_rfl
theorem fo199_3 : fieldOff Tryz.prog 199 3 = some 4 := by kernel_rfl
theorem zc199 : zeroCs Tryz.prog 199 = some [.slice none 0 0, .string ⟨#[]⟩, .int .i64 0, .int .i64 0, .int .i64 0] := by kernel_rfl
theorem sc200 : scalarB Tryz.prog 200 = true := by kernel_rfl
theorem es200 : elemSz Tryz.prog 200 = some (201, 1) := by kernel_rfl
theorem ap200 : appB Tryz.prog 200 = some (201, 1, 8) := by kernel_rfl
theorem zc200 : zeroCs Tryz.prog 200 = some [.slice none 0 0] := by kernel_rfl
theorem sc201 : scalarB Tryz.prog 201 = true := by kernel_rfl
theorem rz202 : rowSz Tryz.prog 202 = some 2 := by kernel_rfl
theorem fo202_0 : fieldOff Tryz.prog 202 0 = some 0 := by kernel_rfl
theorem fo202_1 : fieldOff Tryz.prog 202 1 = some 1 := by kernel_rfl
theorem zc202 : zeroCs Tryz.prog 202 = some [.int .i64 0, .slice none 0 0] := by kernel_rfl
theorem rz203 : rowSz Tryz.prog 203 = some 2 := by kernel_rfl
theorem fo203_0 : fieldOff Tryz.prog 203 0 = some 0 := by kernel_rfl
theorem fo203_1 : fieldOff Tryz.prog 203 1 = some 1 := by kernel_rfl
theorem zc203 : zeroCs Tryz.prog 203 = some [.int .i64 0, .slice none 0 0] := by kernel_rfl
theorem sc204 : scalarB Tryz.prog 204 = true := by kernel_rfl
theorem sc205 : scalarB Tryz.prog 205 = true := by kernel_rfl
theorem sc206 : scalarB Tryz.prog 206 = true := by kernel_rfl
theorem sc207 : scalarB Tryz.prog 207 = true := by kernel_rfl
theorem sc208 : scalarB Tryz.prog 208 = true := by kernel_rfl
theorem sc209 : scalarB Tryz.prog 209 = true := by kernel_rfl
theorem sc210 : scalarB Tryz.prog 210 = true := by kernel_rfl
theorem sc211 : scalarB Tryz.prog 211 = true := by kernel_rfl
theorem es211 : elemSz Tryz.prog 211 = some (217, 6) := by kernel_rfl
theorem ap211 : appB Tryz.prog 211 = some (217, 6, 48) := by kernel_rfl
theorem zc211 : zeroCs Tryz.prog 211 = some [.slice none 0 0] := by kernel_rfl
theorem rz212 : rowSz Tryz.prog 212 = some 4 := by kernel_rfl
theorem fo212_0 : fieldOff Tryz.prog 212 0 = some 0 := by kernel_rfl
theorem fo212_1 : fieldOff Tryz.prog 212 1 = some 1 := by kernel_rfl
theorem fo212_2 : fieldOff Tryz.prog 212 2 = some 3 := by kernel_rfl
theorem zc212 : zeroCs Tryz.prog 212 = some [.slice none 0 0, .int .i64 0, .int .i64 0, .slice none 0 0] := by kernel_rfl
theorem rz213 : rowSz Tryz.prog 213 = some 4 := by kernel_rfl
theorem fo213_0 : fieldOff Tryz.prog 213 0 = some 0 := by kernel_rfl
theorem fo213_1 : fieldOff Tryz.prog 213 1 = some 1 := by kernel_rfl
theorem fo213_2 : fieldOff Tryz.prog 213 2 = some 3 := by kernel_rfl
theorem zc213 : zeroCs Tryz.prog 213 = some [.slice none 0 0, .int .i64 0, .int .i64 0, .slice none 0 0] := by kernel_rfl
theorem sc214 : scalarB Tryz.prog 214 = true := by kernel_rfl
theorem sc215 : scalarB Tryz.prog 215 = true := by kernel_rfl
theorem rz216 : rowSz Tryz.prog 216 = some 6 := by kernel_rfl
theorem fo216_0 : fieldOff Tryz.prog 216 0 = some 0 := by kernel_rfl
theorem fo216_1 : fieldOff Tryz.prog 216 1 = some 1 := by kernel_rfl
theorem fo216_2 : fieldOff Tryz.prog 216 2 = some 2 := by kernel_rfl
theorem fo216_3 : fieldOff Tryz.prog 216 3 = some 5 := by kernel_rfl
theorem zc216 : zeroCs Tryz.prog 216 = some [.int .i64 0, .int .i64 0, .int .i64 0, .int .i64 0, .int .i64 0, .bool false] := by kernel_rfl
theorem rz217 : rowSz Tryz.prog 217 = some 6 := by kernel_rfl
theorem fo217_0 : fieldOff Tryz.prog 217 0 = some 0 := by kernel_rfl
theorem fo217_1 : fieldOff Tryz.prog 217 1 = some 1 := by kernel_rfl
theorem fo217_2 : fieldOff Tryz.prog 217 2 = some 2 := by kernel_rfl
theorem fo217_3 : fieldOff Tryz.prog 217 3 = some 5 := by kernel_rfl
theorem zc217 : zeroCs Tryz.prog 217 = some [.int .i64 0, .int .i64 0, .int .i64 0, .int .i64 0, .int .i64 0, .bool false] := by kernel_rfl
theorem sc218 : scalarB Tryz.prog 218 = true := by kernel_rfl
theorem sc219 : scalarB Tryz.prog 219 = true := by kernel_rfl
theorem sc220 : scalarB Tryz.prog 220 = true := by kernel_rfl
theorem sc221 : scalarB Tryz.prog 221 = true := by kernel_rfl
theorem es221 : elemSz Tryz.prog 221 = some (66, 1) := by kernel_rfl
theorem ap221 : appB Tryz.prog 221 = some (66, 1, 8) := by kernel_rfl
theorem zc221 : zeroCs Tryz.prog 221 = some [.slice none 0 0] := by kernel_rfl
theorem sc222 : scalarB Tryz.prog 222 = true := by kernel_rfl
theorem sc223 : scalarB Tryz.prog 223 = true := by kernel_rfl
theorem sc224 : scalarB Tryz.prog 224 = true := by kernel_rfl
theorem sc226 : scalarB Tryz.prog 226 = true := by kernel_rfl
theorem sc227 : scalarB Tryz.prog 227 = true := by kernel_rfl
theorem sc228 : scalarB Tryz.prog 228 = true := by kernel_rfl
theorem sc229 : scalarB Tryz.prog 229 = true := by kernel_rfl
theorem sc230 : scalarB Tryz.prog 230 = true := by kernel_rfl
theorem sc231 : scalarB Tryz.prog 231 = true := by kernel_rfl
theorem sc232 : scalarB Tryz.prog 232 = true := by kernel_rfl
theorem sc233 : scalarB Tryz.prog 233 = true := by kernel_rfl
theorem sc234 : scalarB Tryz.prog 234 = true := by kernel_rfl
theorem sc235 : scalarB Tryz.prog 235 = true := by kernel_rfl
theorem sc236 : scalarB Tryz.prog 236 = true := by kernel_rfl
theorem sc237 : scalarB Tryz.prog 237 = true := by kernel_rfl
theorem sc238 : scalarB Tryz.prog 238 = true := by kernel_rfl
theorem sc239 : scalarB Tryz.prog 239 = true := by kernel_rfl
theorem sc240 : scalarB Tryz.prog 240 = true := by kernel_rfl
theorem sc241 : scalarB Tryz.prog 241 = true := by kernel_rfl
theorem sc242 : scalarB Tryz.prog 242 = true := by kernel_rfl
theorem sc243 : scalarB Tryz.prog 243 = true := by kernel_rfl
theorem sc244 : scalarB Tryz.prog 244 = true := by kernel_rfl
theorem sc246 : scalarB Tryz.prog 246 = true := by kernel_rfl
theorem sc247 : scalarB Tryz.prog 247 = true := by kernel_rfl
theorem sc248 : scalarB Tryz.prog 248 = true := by kernel_rfl
theorem sc249 : scalarB Tryz.prog 249 = true := by kernel_rfl
theorem sc250 : scalarB Tryz.prog 250 = true := by kernel_rfl
theorem sc251 : scalarB Tryz.prog 251 = true := by kernel_rfl
theorem sc252 : scalarB Tryz.prog 252 = true := by kernel_rfl
theorem sc253 : scalarB Tryz.prog 253 = true := by kernel_rfl
theorem sc254 : scalarB Tryz.prog 254 = true := by kernel_rfl
theorem sc255 : scalarB Tryz.prog 255 = true := by kernel_rfl
theorem sc256 : scalarB Tryz.prog 256 = true := by kernel_rfl
theorem zc256 : zeroCs Tryz.prog 256 = some [.int .u64 0] := by kernel_rfl
theorem sc257 : scalarB Tryz.prog 257 = true := by kernel_rfl
theorem sc258 : scalarB Tryz.prog 258 = true := by kernel_rfl
theorem rz259 : rowSz Tryz.prog 259 = some 256 := by kernel_rfl
theorem sc262 : scalarB Tryz.prog 262 = true := by kernel_rfl
theorem sc263 : scalarB Tryz.prog 263 = true := by kernel_rfl
theorem sc264 : scalarB Tryz.prog 264 = true := by kernel_rfl
theorem sc266 : scalarB Tryz.prog 266 = true := by kernel_rfl
theorem sc267 : scalarB Tryz.prog 267 = true := by kernel_rfl
theorem sc268 : scalarB Tryz.prog 268 = true := by kernel_rfl
theorem sc269 : scalarB Tryz.prog 269 = true := by kernel_rfl
theorem sc270 : scalarB Tryz.prog 270 = true := by kernel_rfl
theorem sc273 : scalarB Tryz.prog 273 = true := by kernel_rfl
theorem sc274 : scalarB Tryz.prog 274 = true := by kernel_rfl
theorem sc275 : scalarB Tryz.prog 275 = true := by kernel_rfl
theorem sc276 : scalarB Tryz.prog 276 = true := by kernel_rfl
theorem sc277 : scalarB Tryz.prog 277 = true := by kernel_rfl
theorem sc278 : scalarB Tryz.prog 278 = true := by kernel_rfl
theorem sc279 : scalarB Tryz.prog 279 = true := by kernel_rfl
theorem zc279 : zeroCs Tryz.prog 279 = some [.int .u32 0] := by kernel_rfl
theorem sc280 : scalarB Tryz.prog 280 = true := by kernel_rfl
theorem sc281 : scalarB Tryz.prog 281 = true := by kernel_rfl
theorem zc281 : zeroCs Tryz.prog 281 = some [.int .u64 0] := by kernel_rfl
theorem sc282 : scalarB Tryz.prog 282 = true := by kernel_rfl
theorem sc283 : scalarB Tryz.prog 283 = true := by kernel_rfl
theorem sc284 : scalarB Tryz.prog 284 = true := by kernel_rfl
theorem sc285 : scalarB Tryz.prog 285 = true := by kernel_rfl
theorem sc286 : scalarB Tryz.prog 286 = true := by kernel_rfl
theorem sc287 : scalarB Tryz.prog 287 = true := by kernel_rfl
theorem sc289 : scalarB Tryz.prog 289 = true := by kernel_rfl
theorem sc290 : scalarB Tryz.prog 290 = true := by kernel_rfl
theorem sc291 : scalarB Tryz.prog 291 = true := by kernel_rfl
theorem sc292 : scalarB Tryz.prog 292 = true := by kernel_rfl
theorem sc294 : scalarB Tryz.prog 294 = true := by kernel_rfl
theorem sc295 : scalarB Tryz.prog 295 = true := by kernel_rfl
theorem sc296 : scalarB Tryz.prog 296 = true := by kernel_rfl
theorem sc297 : scalarB Tryz.prog 297 = true := by kernel_rfl
theorem sc298 : scalarB Tryz.prog 298 = true := by kernel_rfl
theorem sc299 : scalarB Tryz.prog 299 = true := by kernel_rfl
theorem sc300 : scalarB Tryz.prog 300 = true := by kernel_rfl
theorem sc301 : scalarB Tryz.prog 301 = true := by kernel_rfl
theorem sc302 : scalarB Tryz.prog 302 = true := by kernel_rfl
theorem sc303 : scalarB Tryz.prog 303 = true := by kernel_rfl
theorem sc304 : scalarB Tryz.prog 304 = true := by kernel_rfl
theorem sc305 : scalarB Tryz.prog 305 = true := by kernel_rfl
theorem sc306 : scalarB Tryz.prog 306 = true := by kernel_rfl
theorem rz307 : rowSz Tryz.prog 307 = some 256 := by kernel_rfl
theorem rz308 : rowSz Tryz.prog 308 = some 2 := by kernel_rfl
theorem fo308_0 : fieldOff Tryz.prog 308 0 = some 0 := by kernel_rfl
theorem fo308_1 : fieldOff Tryz.prog 308 1 = some 1 := by kernel_rfl
theorem zc308 : zeroCs Tryz.prog 308 = some [.int .u8 0, .int .u8 0] := by kernel_rfl
theorem rz310 : rowSz Tryz.prog 310 = some 32 := by kernel_rfl
theorem zc310 : zeroCs Tryz.prog 310 = some [.int .u8 0, .int .u8 0, .int .u8 0, .int .u8 0, .int .u8 0, .int .u8 0, .int .u8 0, .int .u8 0, .int .u8 0, .int .u8 0, .int .u8 0, .int .u8 0, .int .u8 0, .int .u8 0, .int .u8 0, .int .u8 0, .int .u8 0, .int .u8 0, .int .u8 0, .int .u8 0, .int .u8 0, .int .u8 0, .int .u8 0, .int .u8 0, .int .u8 0, .int .u8 0, .int .u8 0, .int .u8 0, .int .u8 0, .int .u8 0, .int .u8 0, .int .u8 0] := by kernel_rfl
theorem sc311 : scalarB Tryz.prog 311 = true := by kernel_rfl
theorem sc312 : scalarB Tryz.prog 312 = true := by kernel_rfl
theorem sc313 : scalarB Tryz.prog 313 = true := by kernel_rfl
theorem rz314 : rowSz Tryz.prog 314 = some 4 := by kernel_rfl
theorem fo314_0 : fieldOff Tryz.prog 314 0 = some 0 := by kernel_rfl
theorem fo314_1 : fieldOff Tryz.prog 314 1 = some 1 := by kernel_rfl
theorem fo314_2 : fieldOff Tryz.prog 314 2 = some 2 := by kernel_rfl
theorem fo314_3 : fieldOff Tryz.prog 314 3 = some 3 := by kernel_rfl
theorem zc314 : zeroCs Tryz.prog 314 = some [.pointer none, .pointer none, .pointer none, .string ⟨#[]⟩] := by kernel_rfl
theorem rz316 : rowSz Tryz.prog 316 = some 0 := by kernel_rfl
theorem zc316 : zeroCs Tryz.prog 316 = some [] := by kernel_rfl
theorem rz317 : rowSz Tryz.prog 317 = some 0 := by kernel_rfl
theorem zc317 : zeroCs Tryz.prog 317 = some [] := by kernel_rfl
theorem sc319 : scalarB Tryz.prog 319 = true := by kernel_rfl
theorem sc322 : scalarB Tryz.prog 322 = true := by kernel_rfl
theorem sc323 : scalarB Tryz.prog 323 = true := by kernel_rfl
theorem rz326 : rowSz Tryz.prog 326 = some 11 := by kernel_rfl
theorem fo326_0 : fieldOff Tryz.prog 326 0 = some 0 := by kernel_rfl
theorem fo326_1 : fieldOff Tryz.prog 326 1 = some 1 := by kernel_rfl
theorem fo326_2 : fieldOff Tryz.prog 326 2 = some 2 := by kernel_rfl
theorem fo326_3 : fieldOff Tryz.prog 326 3 = some 3 := by kernel_rfl
theorem fo326_4 : fieldOff Tryz.prog 326 4 = some 4 := by kernel_rfl
theorem fo326_5 : fieldOff Tryz.prog 326 5 = some 5 := by kernel_rfl
theorem fo326_6 : fieldOff Tryz.prog 326 6 = some 6 := by kernel_rfl
theorem fo326_7 : fieldOff Tryz.prog 326 7 = some 7 := by kernel_rfl
theorem fo326_8 : fieldOff Tryz.prog 326 8 = some 8 := by kernel_rfl
theorem fo326_9 : fieldOff Tryz.prog 326 9 = some 9 := by kernel_rfl
theorem fo326_10 : fieldOff Tryz.prog 326 10 = some 10 := by kernel_rfl
theorem zc326 : zeroCs Tryz.prog 326 = some [.int .u64 0, .int .u64 0, .int .u32 0, .int .u8 0, .int .u8 0, .int .u8 0, .int .u8 0, .nilFunc, .pointer none, .int .i32 0, .int .i32 0] := by kernel_rfl
theorem cb2 : callableB Tryz.prog 2 = true := by kernel_rfl
theorem cb3 : callableB Tryz.prog 3 = true := by kernel_rfl
theorem cb4 : callableB Tryz.prog 4 = true := by kernel_rfl
theorem cb5 : callableB Tryz.prog 5 = true := by kernel_rfl
theorem cb6 : callableB Tryz.prog 6 = true := by kernel_rfl
theorem cb7 : callableB Tryz.prog 7 = true := by kernel_rfl
theorem cb8 : callableB Tryz.prog 8 = true := by kernel_rfl
theorem cb9 : callableB Tryz.prog 9 = true := by kernel_rfl
theorem cb10 : callableB Tryz.prog 10 = true := by kernel_rfl
theorem cb11 : callableB Tryz.prog 11 = true := by kernel_rfl
theorem cb12 : callableB Tryz.prog 12 = true := by kernel_rfl
theorem cb13 : callableB Tryz.prog 13 = true := by kernel_rfl
theorem cb14 : callableB Tryz.prog 14 = true := by kernel_rfl
theorem cb15 : callableB Tryz.prog 15 = true := by kernel_rfl
theorem cb16 : callableB Tryz.prog 16 = true := by kernel_rfl
theorem cb17 : callableB Tryz.prog 17 = true := by kernel_rfl
theorem cb18 : callableB Tryz.prog 18 = true := by kernel_rfl
theorem cb19 : callableB Tryz.prog 19 = true := by kernel_rfl
theorem cb20 : callableB Tryz.prog 20 = true := by kernel_rfl
theorem cb21 : callableB Tryz.prog 21 = true := by kernel_rfl
theorem cb22 : callableB Tryz.prog 22 = true := by kernel_rfl
theorem cb23 : callableB Tryz.prog 23 = true := by kernel_rfl
theorem cb24 : callableB Tryz.prog 24 = true := by kernel_rfl
theorem cb25 : callableB Tryz.prog 25 = true := by kernel_rfl
theorem cb26 : callableB Tryz.prog 26 = true := by kernel_rfl
theorem cb27 : callableB Tryz.prog 27 = true := by kernel_rfl
theorem cb28 : callableB Tryz.prog 28 = true := by kernel_rfl
theorem cb29 : callableB Tryz.prog 29 = true := by kernel_rfl
theorem cb30 : callableB Tryz.prog 30 = true := by kernel_rfl
theorem cb31 : callableB Tryz.prog 31 = true := by kernel_rfl
theorem cb32 : callableB Tryz.prog 32 = true := by kernel_rfl
theorem cb33 : callableB Tryz.prog 33 = true := by kernel_rfl
theorem cb34 : callableB Tryz.prog 34 = true := by kernel_rfl
theorem cb35 : callableB Tryz.prog 35 = true := by kernel_rfl
theorem cb36 : callableB Tryz.prog 36 = true := by kernel_rfl
theorem cb37 : callableB Tryz.prog 37 = true := by kernel_rfl
theorem cb38 : callableB Tryz.prog 38 = true := by kernel_rfl
theorem cb39 : callableB Tryz.prog 39 = true := by kernel_rfl
theorem cb40 : callableB Tryz.prog 40 = true := by kernel_rfl
theorem cb41 : callableB Tryz.prog 41 = true := by kernel_rfl
theorem cb42 : callableB Tryz.prog 42 = true := by kernel_rfl
theorem cb43 : callableB Tryz.prog 43 = true := by kernel_rfl
theorem cb44 : callableB Tryz.prog 44 = true := by kernel_rfl
theorem cb45 : callableB Tryz.prog 45 = true := by kernel_rfl
theorem cb46 : callableB Tryz.prog 46 = true := by kernel_rfl
theorem cb47 : callableB Tryz.prog 47 = true := by kernel_rfl
theorem cb48 : callableB Tryz.prog 48 = true := by kernel_rfl
theorem cb49 : callableB Tryz.prog 49 = true := by kernel_rfl
theorem cb50 : callableB Tryz.prog 50 = true := by kernel_rfl
theorem cb51 : callableB Tryz.prog 51 = true := by kernel_rfl
theorem cb52 : callableB Tryz.prog 52 = true := by kernel_rfl
theorem cb53 : callableB Tryz.prog 53 = true := by kernel_rfl
theorem cb54 : callableB Tryz.prog 54 = true := by kernel_rfl
theorem cb55 : callableB Tryz.prog 55 = true := by kernel_rfl
theorem cb56 : callableB Tryz.prog 56 = true := by kernel_rfl
theorem cb57 : callableB Tryz.prog 57 = true := by kernel_rfl
theorem cb58 : callableB Tryz.prog 58 = true := by kernel_rfl
theorem cb59 : callableB Tryz.prog 59 = true := by kernel_rfl
theorem cb60 : callableB Tryz.prog 60 = true := by kernel_rfl
theorem cb61 : callableB Tryz.prog 61 = true := by kernel_rfl
theorem cb62 : callableB Tryz.prog 62 = true := by kernel_rfl
theorem cb63 : callableB Tryz.prog 63 = true := by kernel_rfl
theorem cb64 : callableB Tryz.prog 64 = true := by kernel_rfl
theorem cb65 : callableB Tryz.prog 65 = true := by kernel_rfl
theorem cb66 : callableB Tryz.prog 66 = true := by kernel_rfl
theorem cb67 : callableB Tryz.prog 67 = true := by kernel_rfl
theorem cb68 : callableB Tryz.prog 68 = true := by kernel_rfl
theorem cb69 : callableB Tryz.prog 69 = true := by kernel_rfl
theorem cb70 : callableB Tryz.prog 70 = true := by kernel_rfl
theorem cb71 : callableB Tryz.prog 71 = true := by kernel_rfl
theorem cb72 : callableB Tryz.prog 72 = true := by kernel_rfl
theorem cb73 : callableB Tryz.prog 73 = true := by kernel_rfl
theorem cb74 : callableB Tryz.prog 74 = true := by kernel_rfl
theorem cb75 : callableB Tryz.prog 75 = true := by kernel_rfl
theorem cb76 : callableB Tryz.prog 76 = true := by kernel_rfl
theorem cb77 : callableB Tryz.prog 77 = true := by kernel_rfl
theorem cb78 : callableB Tryz.prog 78 = true := by kernel_rfl
theorem cb79 : callableB Tryz.prog 79 = true := by kernel_rfl
theorem cb80 : callableB Tryz.prog 80 = true := by kernel_rfl
theorem cb81 : callableB Tryz.prog 81 = true := by kernel_rfl
theorem cb82 : callableB Tryz.prog 82 = true := by kernel_rfl
theorem cb83 : callableB Tryz.prog 83 = true := by kernel_rfl
theorem cb84 : callableB Tryz.prog 84 = true := by kernel_rfl
theorem cb85 : callableB Tryz.prog 85 = true := by kernel_rfl
theorem cb86 : callableB Tryz.prog 86 = true := by kernel_rfl
theorem cb87 : callableB Tryz.prog 87 = true := by kernel_rfl
theorem cb88 : callableB Tryz.prog 88 = true := by kernel_rfl
theorem cb89 : callableB Tryz.prog 89 = true := by kernel_rfl
theorem cb90 : callableB Tryz.prog 90 = true := by kernel_rfl
theorem cb91 : callableB Tryz.prog 91 = true := by kernel_rfl
theorem cb92 : callableB Tryz.prog 92 = true := by kernel_rfl
theorem cb93 : callableB Tryz.prog 93 = true := by kernel_rfl
theorem cb94 : callableB Tryz.prog 94 = true := by kernel_rfl
theorem cb95 : callableB Tryz.prog 95 = true := by kernel_rfl
theorem cb96 : callableB Tryz.prog 96 = true := by kernel_rfl
theorem cb97 : callableB Tryz.prog 97 = true := by kernel_rfl
theorem cb98 : callableB Tryz.prog 98 = true := by kernel_rfl
theorem cb99 : callableB Tryz.prog 99 = true := by kernel_rfl
theorem cb100 : callableB Tryz.prog 100 = true := by kernel_rfl
theorem cb101 : callableB Tryz.prog 101 = true := by kernel_rfl
theorem cb102 : callableB Tryz.prog 102 = true := by kernel_rfl
theorem cb103 : callableB Tryz.prog 103 = true := by kernel_rfl
theorem cb104 : callableB Tryz.prog 104 = true := by kernel_rfl
theorem cb105 : callableB Tryz.prog 105 = true := by kernel_rfl
theorem cb106 : callableB Tryz.prog 106 = true := by kernel_rfl
theorem cb107 : callableB Tryz.prog 107 = true := by kernel_rfl
theorem cb108 : callableB Tryz.prog 108 = true := by kernel_rfl
theorem cb109 : callableB Tryz.prog 109 = true := by kernel_rfl
theorem cb110 : callableB Tryz.prog 110 = true := by kernel_rfl
theorem cb111 : callableB Tryz.prog 111 = true := by kernel_rfl
theorem cb112 : callableB Tryz.prog 112 = true := by kernel_rfl
theorem cb113 : callableB Tryz.prog 113 = true := by kernel_rfl
theorem cb114 : callableB Tryz.prog 114 = true := by kernel_rfl
theorem cb115 : callableB Tryz.prog 115 = true := by kernel_rfl
theorem cb116 : callableB Tryz.prog 116 = true := by kernel_rfl
theorem cb117 : callableB Tryz.prog 117 = true := by kernel_rfl
theorem cb118 : callableB Tryz.prog 118 = true := by kernel_rfl
theorem cb119 : callableB Tryz.prog 119 = true := by kernel_rfl
theorem cb120 : callableB Tryz.prog 120 = true := by kernel_rfl
theorem cb121 : callableB Tryz.prog 121 = true := by kernel_rfl
theorem cb122 : callableB Tryz.prog 122 = true := by kernel_rfl
theorem cb123 : callableB Tryz.prog 123 = true := by kernel_rfl
theorem cb124 : callableB Tryz.prog 124 = true := by kernel_rfl
theorem cb125 : callableB Tryz.prog 125 = true := by kernel_rfl
theorem cb126 : callableB Tryz.prog 126 = true := by kernel_rfl
theorem cb127 : callableB Tryz.prog 127 = true := by kernel_rfl
theorem cb128 : callableB Tryz.prog 128 = true := by kernel_rfl
theorem cb129 : callableB Tryz.prog 129 = true := by kernel_rfl
theorem cb130 : callableB Tryz.prog 130 = true := by kernel_rfl
theorem cb131 : callableB Tryz.prog 131 = true := by kernel_rfl
theorem cb132 : callableB Tryz.prog 132 = true := by kernel_rfl
theorem cb133 : callableB Tryz.prog 133 = true := by kernel_rfl
theorem cb134 : callableB Tryz.prog 134 = true := by kernel_rfl
theorem cb135 : callableB Tryz.prog 135 = true := by kernel_rfl
theorem cb136 : callableB Tryz.prog 136 = true := by kernel_rfl
theorem cb137 : callableB Tryz.prog 137 = true := by kernel_rfl
theorem cb138 : callableB Tryz.prog 138 = true := by kernel_rfl
theorem cb139 : callableB Tryz.prog 139 = true := by kernel_rfl
theorem cb140 : callableB Tryz.prog 140 = true := by kernel_rfl
theorem cb141 : callableB Tryz.prog 141 = true := by kernel_rfl
theorem cb142 : callableB Tryz.prog 142 = true := by kernel_rfl
theorem cb143 : callableB Tryz.prog 143 = true := by kernel_rfl
theorem cb144 : callableB Tryz.prog 144 = true := by kernel_rfl
theorem cb145 : callableB Tryz.prog 145 = true := by kernel_rfl
theorem cb146 : callableB Tryz.prog 146 = true := by kernel_rfl
theorem cb147 : callableB Tryz.prog 147 = true := by kernel_rfl
theorem cb148 : callableB Tryz.prog 148 = true := by kernel_rfl
theorem cb149 : callableB Tryz.prog 149 = true := by kernel_rfl
theorem cb150 : callableB Tryz.prog 150 = true := by kernel_rfl
theorem cb151 : callableB Tryz.prog 151 = true := by kernel_rfl
theorem cb152 : callableB Tryz.prog 152 = true := by kernel_rfl
theorem cb153 : callableB Tryz.prog 153 = true := by kernel_rfl
theorem cb154 : callableB Tryz.prog 154 = true := by kernel_rfl
theorem cb155 : callableB Tryz.prog 155 = true := by kernel_rfl
theorem cb156 : callableB Tryz.prog 156 = true := by kernel_rfl
theorem cb157 : callableB Tryz.prog 157 = true := by kernel_rfl
theorem cb158 : callableB Tryz.prog 158 = true := by kernel_rfl
theorem cb159 : callableB Tryz.prog 159 = true := by kernel_rfl
theorem cb160 : callableB Tryz.prog 160 = true := by kernel_rfl
theorem cb161 : callableB Tryz.prog 161 = true := by kernel_rfl
theorem cb162 : callableB Tryz.prog 162 = true := by kernel_rfl
theorem cb163 : callableB Tryz.prog 163 = true := by kernel_rfl
theorem cb164 : callableB Tryz.prog 164 = true := by kernel_rfl
theorem cb165 : callableB Tryz.prog 165 = true := by kernel_rfl
theorem cb166 : callableB Tryz.prog 166 = true := by kernel_rfl
theorem cb167 : callableB Tryz.prog 167 = true := by kernel_rfl
theorem cb168 : callableB Tryz.prog 168 = true := by kernel_rfl
theorem cb169 : callableB Tryz.prog 169 = true := by kernel_rfl
theorem cb170 : callableB Tryz.prog 170 = true := by kernel_rfl
theorem cb171 : callableB Tryz.prog 171 = true := by kernel_rfl
theorem cb172 : callableB Tryz.prog 172 = true := by kernel_rfl
theorem cb173 : callableB Tryz.prog 173 = true := by kernel_rfl
theorem cb174 : callableB Tryz.prog 174 = true := by kernel_rfl
theorem cb175 : callableB Tryz.prog 175 = true := by kernel_rfl
theorem cb176 : callableB Tryz.prog 176 = true := by kernel_rfl
theorem cb177 : callableB Tryz.prog 177 = true := by kernel_rfl
theorem cb178 : callableB Tryz.prog 178 = true := by kernel_rfl
theorem cb179 : callableB Tryz.prog 179 = true := by kernel_rfl
theorem cb180 : callableB Tryz.prog 180 = true := by kernel_rfl
theorem cb181 : callableB Tryz.prog 181 = true := by kernel_rfl
theorem cb182 : callableB Tryz.prog 182 = true := by kernel_rfl
theorem cb183 : callableB Tryz.prog 183 = true := by kernel_rfl
theorem cb184 : callableB Tryz.prog 184 = true := by kernel_rfl
theorem cb185 : callableB Tryz.prog 185 = true := by kernel_rfl
theorem cb186 : callableB Tryz.prog 186 = true := by kernel_rfl
theorem cb187 : callableB Tryz.prog 187 = true := by kernel_rfl
theorem cb188 : callableB Tryz.prog 188 = true := by kernel_rfl
theorem cb189 : callableB Tryz.prog 189 = true := by kernel_rfl
theorem cb190 : callableB Tryz.prog 190 = true := by kernel_rfl
theorem cb191 : callableB Tryz.prog 191 = true := by kernel_rfl
theorem cb192 : callableB Tryz.prog 192 = true := by kernel_rfl
theorem cb193 : callableB Tryz.prog 193 = true := by kernel_rfl
theorem cb194 : callableB Tryz.prog 194 = true := by kernel_rfl
theorem cb195 : callableB Tryz.prog 195 = true := by kernel_rfl
theorem cb196 : callableB Tryz.prog 196 = true := by kernel_rfl
theorem cb197 : callableB Tryz.prog 197 = true := by kernel_rfl
theorem cb198 : callableB Tryz.prog 198 = true := by kernel_rfl
theorem cb199 : callableB Tryz.prog 199 = true := by kernel_rfl
theorem cb200 : callableB Tryz.prog 200 = true := by kernel_rfl
theorem cb201 : callableB Tryz.prog 201 = true := by kernel_rfl
theorem cb202 : callableB Tryz.prog 202 = true := by kernel_rfl
theorem cb203 : callableB Tryz.prog 203 = true := by kernel_rfl
theorem cb204 : callableB Tryz.prog 204 = true := by kernel_rfl
theorem cb205 : callableB Tryz.prog 205 = true := by kernel_rfl
theorem cb206 : callableB Tryz.prog 206 = true := by kernel_rfl
theorem cb207 : callableB Tryz.prog 207 = true := by kernel_rfl
theorem cb208 : callableB Tryz.prog 208 = true := by kernel_rfl
theorem cb209 : callableB Tryz.prog 209 = true := by kernel_rfl
theorem cb210 : callableB Tryz.prog 210 = true := by kernel_rfl
theorem cb211 : callableB Tryz.prog 211 = true := by kernel_rfl
theorem cb212 : callableB Tryz.prog 212 = true := by kernel_rfl
theorem cb213 : callableB Tryz.prog 213 = true := by kernel_rfl
theorem cb214 : callableB Tryz.prog 214 = true := by kernel_rfl
theorem cb215 : callableB Tryz.prog 215 = true := by kernel_rfl
theorem cb216 : callableB Tryz.prog 216 = true := by kernel_rfl
theorem cb217 : callableB Tryz.prog 217 = true := by kernel_rfl
theorem cb218 : callableB Tryz.prog 218 = true := by kernel_rfl
theorem cb219 : callableB Tryz.prog 219 = true := by kernel_rfl
theorem cb220 : callableB Tryz.prog 220 = true := by kernel_rfl
theorem cb221 : callableB Tryz.prog 221 = true := by kernel_rfl
theorem cb222 : callableB Tryz.prog 222 = true := by kernel_rfl
theorem cb223 : callableB Tryz.prog 223 = true := by kernel_rfl
theorem cb224 : callableB Tryz.prog 224 = true := by kernel_rfl
theorem cb225 : callableB Tryz.prog 225 = true := by kernel_rfl
theorem cb226 : callableB Tryz.prog 226 = true := by kernel_rfl
theorem cb227 : callableB Tryz.prog 227 = true := by kernel_rfl
theorem cb228 : callableB Tryz.prog 228 = true := by kernel_rfl
theorem cb229 : callableB Tryz.prog 229 = true := by kernel_rfl
theorem cb230 : callableB Tryz.prog 230 = true := by kernel_rfl
theorem cb231 : callableB Tryz.prog 231 = true := by kernel_rfl
theorem cb232 : callableB Tryz.prog 232 = true := by kernel_rfl
theorem cb233 : callableB Tryz.prog 233 = true := by kernel_rfl
theorem cb234 : callableB Tryz.prog 234 = true := by kernel_rfl
theorem cb235 : callableB Tryz.prog 235 = true := by kernel_rfl
theorem cb236 : callableB Tryz.prog 236 = true := by kernel_rfl
theorem cb237 : callableB Tryz.prog 237 = true := by kernel_rfl
theorem cb238 : callableB Tryz.prog 238 = true := by kernel_rfl
theorem cb239 : callableB Tryz.prog 239 = true := by kernel_rfl
theorem cb240 : callableB Tryz.prog 240 = true := by kernel_rfl
theorem cb241 : callableB Tryz.prog 241 = true := by kernel_rfl
theorem cb242 : callableB Tryz.prog 242 = true := by kernel_rfl
theorem cb244 : callableB Tryz.prog 244 = true := by kernel_rfl
theorem cb245 : callableB Tryz.prog 245 = true := by kernel_rfl
theorem cb246 : callableB Tryz.prog 246 = true := by kernel_rfl
theorem cb247 : callableB Tryz.prog 247 = true := by kernel_rfl
theorem cb248 : callableB Tryz.prog 248 = true := by kernel_rfl
theorem cb249 : callableB Tryz.prog 249 = true := by kernel_rfl
theorem cb250 : callableB Tryz.prog 250 = true := by kernel_rfl
theorem cb251 : callableB Tryz.prog 251 = true := by kernel_rfl
theorem cb252 : callableB Tryz.prog 252 = true := by kernel_rfl
theorem cb253 : callableB Tryz.prog 253 = true := by kernel_rfl
theorem cb254 : callableB Tryz.prog 254 = true := by kernel_rfl
theorem cb255 : callableB Tryz.prog 255 = true := by kernel_rfl
theorem cb256 : callableB Tryz.prog 256 = true := by kernel_rfl
theorem cb257 : callableB Tryz.prog 257 = true := by kernel_rfl
theorem cb258 : callableB Tryz.prog 258 = true := by kernel_rfl
theorem cb259 : callableB Tryz.prog 259 = true := by kernel_rfl
theorem cb260 : callableB Tryz.prog 260 = true := by kernel_rfl
theorem cb261 : callableB Tryz.prog 261 = true := by kernel_rfl
theorem cb262 : callableB Tryz.prog 262 = true := by kernel_rfl
theorem cb263 : callableB Tryz.prog 263 = true := by kernel_rfl
theorem cb264 : callableB Tryz.prog 264 = true := by kernel_rfl
theorem cb265 : callableB Tryz.prog 265 = true := by kernel_rfl
theorem cb266 : callableB Tryz.prog 266 = true := by kernel_rfl
theorem cb267 : callableB Tryz.prog 267 = true := by kernel_rfl
theorem cb269 : callableB Tryz.prog 269 = true := by kernel_rfl
theorem cb270 : callableB Tryz.prog 270 = true := by kernel_rfl
theorem cb293 : callableB Tryz.prog 293 = true := by kernel_rfl
theorem mixed : Tryz.prog.follows .mixedOrders = true := by kernel_rfl

end Go.Proofs.YtcggbojhalbkjaaGreatDoor
