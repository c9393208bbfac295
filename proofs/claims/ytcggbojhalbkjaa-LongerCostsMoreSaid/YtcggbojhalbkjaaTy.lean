/- Closed facts on the types and functions of the program. -/
import Derived.Test.YtcggbojhalbkjaaProg
import Derived.Test.YtcggbojhalbkjaaSc
namespace Go.Proofs.Ytcggbojhalbkjaa

theorem sc1 : scalarB Try.prog 1 = true := by kernel_rfl
theorem sc2 : scalarB Try.prog 2 = true := by kernel_rfl
theorem zc2 : zeroCs Try.prog 2 = some [.int .i64 0] := by kernel_rfl
theorem sc3 : scalarB Try.prog 3 = true := by kernel_rfl
theorem zc3 : zeroCs Try.prog 3 = some [.int .i64 0] := by kernel_rfl
theorem sc4 : scalarB Try.prog 4 = true := by kernel_rfl
theorem zc4 : zeroCs Try.prog 4 = some [.bool false] := by kernel_rfl
theorem sc5 : scalarB Try.prog 5 = true := by kernel_rfl
theorem zc5 : zeroCs Try.prog 5 = some [.int .u8 0] := by kernel_rfl
theorem rz7 : rowSz Try.prog 7 = some 4 := by kernel_rfl
theorem fo7_0 : fieldOff Try.prog 7 0 = some 0 := by kernel_rfl
theorem fo7_1 : fieldOff Try.prog 7 1 = some 1 := by kernel_rfl
theorem fo7_2 : fieldOff Try.prog 7 2 = some 2 := by kernel_rfl
theorem fo7_3 : fieldOff Try.prog 7 3 = some 3 := by kernel_rfl
theorem zc7 : zeroCs Try.prog 7 = some [.int .i64 0, .int .i64 0, .bool false, .int .u8 0] := by kernel_rfl
theorem sc9 : scalarB Try.prog 9 = true := by kernel_rfl
theorem us9 : Try.prog.underlying 9 = some .string := by kernel_rfl
theorem zc9 : zeroCs Try.prog 9 = some [.string ⟨#[]⟩] := by kernel_rfl
theorem sc12 : scalarB Try.prog 12 = true := by kernel_rfl
theorem zc12 : zeroCs Try.prog 12 = some [.int .u64 0] := by kernel_rfl
theorem rz13 : rowSz Try.prog 13 = some 2 := by kernel_rfl
theorem fo13_0 : fieldOff Try.prog 13 0 = some 0 := by kernel_rfl
theorem fo13_1 : fieldOff Try.prog 13 1 = some 1 := by kernel_rfl
theorem zc13 : zeroCs Try.prog 13 = some [.string ⟨#[]⟩, .int .u64 0] := by kernel_rfl
theorem sc15 : scalarB Try.prog 15 = true := by kernel_rfl
theorem sc16 : scalarB Try.prog 16 = true := by kernel_rfl
theorem sc17 : scalarB Try.prog 17 = true := by kernel_rfl
theorem rz18 : rowSz Try.prog 18 = some 1 := by kernel_rfl
theorem fo18_0 : fieldOff Try.prog 18 0 = some 0 := by kernel_rfl
theorem zc18 : zeroCs Try.prog 18 = some [.pointer none] := by kernel_rfl
theorem sc21 : scalarB Try.prog 21 = true := by kernel_rfl
theorem zc21 : zeroCs Try.prog 21 = some [.int .i32 0] := by kernel_rfl
theorem sc22 : scalarB Try.prog 22 = true := by kernel_rfl
theorem es22 : elemSz Try.prog 22 = some (3, 1) := by kernel_rfl
theorem ap22 : appB Try.prog 22 = some (3, 1, 8) := by kernel_rfl
theorem zc22 : zeroCs Try.prog 22 = some [.slice none 0 0] := by kernel_rfl
theorem sc23 : scalarB Try.prog 23 = true := by kernel_rfl
theorem rz24 : rowSz Try.prog 24 = some 2 := by kernel_rfl
theorem fo24_0 : fieldOff Try.prog 24 0 = some 0 := by kernel_rfl
theorem fo24_1 : fieldOff Try.prog 24 1 = some 1 := by kernel_rfl
theorem zc24 : zeroCs Try.prog 24 = some [.slice none 0 0, .int .i64 0] := by kernel_rfl
theorem rz25 : rowSz Try.prog 25 = some 2 := by kernel_rfl
theorem fo25_0 : fieldOff Try.prog 25 0 = some 0 := by kernel_rfl
theorem fo25_1 : fieldOff Try.prog 25 1 = some 1 := by kernel_rfl
theorem zc25 : zeroCs Try.prog 25 = some [.slice none 0 0, .int .i64 0] := by kernel_rfl
theorem sc26 : scalarB Try.prog 26 = true := by kernel_rfl
theorem es26 : elemSz Try.prog 26 = some (47, 7) := by kernel_rfl
theorem ap26 : appB Try.prog 26 = some (47, 7, 64) := by kernel_rfl
theorem zc26 : zeroCs Try.prog 26 = some [.slice none 0 0] := by kernel_rfl
theorem sc27 : scalarB Try.prog 27 = true := by kernel_rfl
theorem sc28 : scalarB Try.prog 28 = true := by kernel_rfl
theorem rz29 : rowSz Try.prog 29 = some 2 := by kernel_rfl
theorem fo29_0 : fieldOff Try.prog 29 0 = some 0 := by kernel_rfl
theorem fo29_1 : fieldOff Try.prog 29 1 = some 1 := by kernel_rfl
theorem zc29 : zeroCs Try.prog 29 = some [.int .i64 0, .int .i64 0] := by kernel_rfl
theorem rz30 : rowSz Try.prog 30 = some 2 := by kernel_rfl
theorem fo30_0 : fieldOff Try.prog 30 0 = some 0 := by kernel_rfl
theorem fo30_1 : fieldOff Try.prog 30 1 = some 1 := by kernel_rfl
theorem zc30 : zeroCs Try.prog 30 = some [.int .i64 0, .int .i64 0] := by kernel_rfl
theorem sc31 : scalarB Try.prog 31 = true := by kernel_rfl
theorem sc32 : scalarB Try.prog 32 = true := by kernel_rfl
theorem es32 : elemSz Try.prog 32 = some (58, 3) := by kernel_rfl
theorem ap32 : appB Try.prog 32 = some (58, 3, 24) := by kernel_rfl
theorem zc32 : zeroCs Try.prog 32 = some [.slice none 0 0] := by kernel_rfl
theorem sc33 : scalarB Try.prog 33 = true := by kernel_rfl
theorem zc33 : zeroCs Try.prog 33 = some [.int .i64 0] := by kernel_rfl
theorem sc35 : scalarB Try.prog 35 = true := by kernel_rfl
theorem sc37 : scalarB Try.prog 37 = true := by kernel_rfl
theorem sc38 : scalarB Try.prog 38 = true := by kernel_rfl
theorem sc39 : scalarB Try.prog 39 = true := by kernel_rfl
theorem sc41 : scalarB Try.prog 41 = true := by kernel_rfl
theorem sc42 : scalarB Try.prog 42 = true := by kernel_rfl
theorem sc43 : scalarB Try.prog 43 = true := by kernel_rfl
theorem sc44 : scalarB Try.prog 44 = true := by kernel_rfl
theorem sc45 : scalarB Try.prog 45 = true := by kernel_rfl
theorem es45 : elemSz Try.prog 45 = some (9, 1) := by kernel_rfl
theorem ap45 : appB Try.prog 45 = some (9, 1, 16) := by kernel_rfl
theorem zc45 : zeroCs Try.prog 45 = some [.slice none 0 0] := by kernel_rfl
theorem rz46 : rowSz Try.prog 46 = some 7 := by kernel_rfl
theorem fo46_0 : fieldOff Try.prog 46 0 = some 0 := by kernel_rfl
theorem fo46_1 : fieldOff Try.prog 46 1 = some 1 := by kernel_rfl
theorem fo46_2 : fieldOff Try.prog 46 2 = some 2 := by kernel_rfl
theorem fo46_3 : fieldOff Try.prog 46 3 = some 3 := by kernel_rfl
theorem fo46_4 : fieldOff Try.prog 46 4 = some 4 := by kernel_rfl
theorem fo46_5 : fieldOff Try.prog 46 5 = some 5 := by kernel_rfl
theorem fo46_6 : fieldOff Try.prog 46 6 = some 6 := by kernel_rfl
theorem zc46 : zeroCs Try.prog 46 = some [.string ⟨#[]⟩, .int .i64 0, .int .i64 0, .int .i64 0, .int .i64 0, .int .i64 0, .int .i64 0] := by kernel_rfl
theorem rz47 : rowSz Try.prog 47 = some 7 := by kernel_rfl
theorem fo47_0 : fieldOff Try.prog 47 0 = some 0 := by kernel_rfl
theorem fo47_1 : fieldOff Try.prog 47 1 = some 1 := by kernel_rfl
theorem fo47_2 : fieldOff Try.prog 47 2 = some 2 := by kernel_rfl
theorem fo47_3 : fieldOff Try.prog 47 3 = some 3 := by kernel_rfl
theorem fo47_4 : fieldOff Try.prog 47 4 = some 4 := by kernel_rfl
theorem fo47_5 : fieldOff Try.prog 47 5 = some 5 := by kernel_rfl
theorem fo47_6 : fieldOff Try.prog 47 6 = some 6 := by kernel_rfl
theorem zc47 : zeroCs Try.prog 47 = some [.string ⟨#[]⟩, .int .i64 0, .int .i64 0, .int .i64 0, .int .i64 0, .int .i64 0, .int .i64 0] := by kernel_rfl
theorem sc48 : scalarB Try.prog 48 = true := by kernel_rfl
theorem sc49 : scalarB Try.prog 49 = true := by kernel_rfl
theorem sc50 : scalarB Try.prog 50 = true := by kernel_rfl
theorem sc51 : scalarB Try.prog 51 = true := by kernel_rfl
theorem sc52 : scalarB Try.prog 52 = true := by kernel_rfl
theorem es52 : elemSz Try.prog 52 = some (60, 6) := by kernel_rfl
theorem ap52 : appB Try.prog 52 = some (60, 6, 48) := by kernel_rfl
theorem zc52 : zeroCs Try.prog 52 = some [.slice none 0 0] := by kernel_rfl
theorem rz53 : rowSz Try.prog 53 = some 4 := by kernel_rfl
theorem fo53_0 : fieldOff Try.prog 53 0 = some 0 := by kernel_rfl
theorem fo53_1 : fieldOff Try.prog 53 1 = some 1 := by kernel_rfl
theorem fo53_2 : fieldOff Try.prog 53 2 = some 3 := by kernel_rfl
theorem zc53 : zeroCs Try.prog 53 = some [.slice none 0 0, .int .i64 0, .int .i64 0, .slice none 0 0] := by kernel_rfl
theorem rz54 : rowSz Try.prog 54 = some 4 := by kernel_rfl
theorem fo54_0 : fieldOff Try.prog 54 0 = some 0 := by kernel_rfl
theorem fo54_1 : fieldOff Try.prog 54 1 = some 1 := by kernel_rfl
theorem fo54_2 : fieldOff Try.prog 54 2 = some 3 := by kernel_rfl
theorem zc54 : zeroCs Try.prog 54 = some [.slice none 0 0, .int .i64 0, .int .i64 0, .slice none 0 0] := by kernel_rfl
theorem sc55 : scalarB Try.prog 55 = true := by kernel_rfl
theorem sc56 : scalarB Try.prog 56 = true := by kernel_rfl
theorem rz57 : rowSz Try.prog 57 = some 3 := by kernel_rfl
theorem fo57_0 : fieldOff Try.prog 57 0 = some 0 := by kernel_rfl
theorem fo57_1 : fieldOff Try.prog 57 1 = some 1 := by kernel_rfl
theorem fo57_2 : fieldOff Try.prog 57 2 = some 2 := by kernel_rfl
theorem zc57 : zeroCs Try.prog 57 = some [.int .i64 0, .int .i64 0, .int .i64 0] := by kernel_rfl
theorem rz58 : rowSz Try.prog 58 = some 3 := by kernel_rfl
theorem fo58_0 : fieldOff Try.prog 58 0 = some 0 := by kernel_rfl
theorem fo58_1 : fieldOff Try.prog 58 1 = some 1 := by kernel_rfl
theorem fo58_2 : fieldOff Try.prog 58 2 = some 2 := by kernel_rfl
theorem zc58 : zeroCs Try.prog 58 = some [.int .i64 0, .int .i64 0, .int .i64 0] := by kernel_rfl
theorem rz59 : rowSz Try.prog 59 = some 6 := by kernel_rfl
theorem fo59_0 : fieldOff Try.prog 59 0 = some 0 := by kernel_rfl
theorem fo59_1 : fieldOff Try.prog 59 1 = some 1 := by kernel_rfl
theorem fo59_2 : fieldOff Try.prog 59 2 = some 2 := by kernel_rfl
theorem fo59_3 : fieldOff Try.prog 59 3 = some 5 := by kernel_rfl
theorem zc59 : zeroCs Try.prog 59 = some [.int .i64 0, .int .i64 0, .int .i64 0, .int .i64 0, .int .i64 0, .bool false] := by kernel_rfl
theorem rz60 : rowSz Try.prog 60 = some 6 := by kernel_rfl
theorem fo60_0 : fieldOff Try.prog 60 0 = some 0 := by kernel_rfl
theorem fo60_1 : fieldOff Try.prog 60 1 = some 1 := by kernel_rfl
theorem fo60_2 : fieldOff Try.prog 60 2 = some 2 := by kernel_rfl
theorem fo60_3 : fieldOff Try.prog 60 3 = some 5 := by kernel_rfl
theorem zc60 : zeroCs Try.prog 60 = some [.int .i64 0, .int .i64 0, .int .i64 0, .int .i64 0, .int .i64 0, .bool false] := by kernel_rfl
theorem sc61 : scalarB Try.prog 61 = true := by kernel_rfl
theorem sc62 : scalarB Try.prog 62 = true := by kernel_rfl
theorem sc63 : scalarB Try.prog 63 = true := by kernel_rfl
theorem sc65 : scalarB Try.prog 65 = true := by kernel_rfl
theorem rz66 : rowSz Try.prog 66 = some 14 := by kernel_rfl
theorem zc66 : zeroCs Try.prog 66 = some [.int .i64 0, .int .i64 0, .int .i64 0, .int .i64 0, .int .i64 0, .int .i64 0, .int .i64 0, .int .i64 0, .int .i64 0, .int .i64 0, .int .i64 0, .int .i64 0, .int .i64 0, .int .i64 0] := by kernel_rfl
theorem rz67 : rowSz Try.prog 67 = some 15 := by kernel_rfl
theorem fo67_0 : fieldOff Try.prog 67 0 = some 0 := by kernel_rfl
theorem fo67_1 : fieldOff Try.prog 67 1 = some 1 := by kernel_rfl
theorem zc67 : zeroCs Try.prog 67 = some [.string ⟨#[]⟩, .int .i64 0, .int .i64 0, .int .i64 0, .int .i64 0, .int .i64 0, .int .i64 0, .int .i64 0, .int .i64 0, .int .i64 0, .int .i64 0, .int .i64 0, .int .i64 0, .int .i64 0, .int .i64 0] := by kernel_rfl
theorem rz68 : rowSz Try.prog 68 = some 15 := by kernel_rfl
theorem fo68_0 : fieldOff Try.prog 68 0 = some 0 := by kernel_rfl
theorem fo68_1 : fieldOff Try.prog 68 1 = some 1 := by kernel_rfl
theorem zc68 : zeroCs Try.prog 68 = some [.string ⟨#[]⟩, .int .i64 0, .int .i64 0, .int .i64 0, .int .i64 0, .int .i64 0, .int .i64 0, .int .i64 0, .int .i64 0, .int .i64 0, .int .i64 0, .int .i64 0, .int .i64 0, .int .i64 0, .int .i64 0] := by kernel_rfl
theorem sc69 : scalarB Try.prog 69 = true := by kernel_rfl
theorem es69 : elemSz Try.prog 69 = some (94, 2) := by kernel_rfl
theorem ap69 : appB Try.prog 69 = some (94, 2, 16) := by kernel_rfl
theorem zc69 : zeroCs Try.prog 69 = some [.slice none 0 0] := by kernel_rfl
theorem sc71 : scalarB Try.prog 71 = true := by kernel_rfl
theorem sc72 : scalarB Try.prog 72 = true := by kernel_rfl
theorem es72 : elemSz Try.prog 72 = some (98, 9) := by kernel_rfl
theorem ap72 : appB Try.prog 72 = some (98, 9, 96) := by kernel_rfl
theorem zc72 : zeroCs Try.prog 72 = some [.slice none 0 0] := by kernel_rfl
theorem rz73 : rowSz Try.prog 73 = some 5 := by kernel_rfl
theorem fo73_0 : fieldOff Try.prog 73 0 = some 0 := by kernel_rfl
theorem fo73_1 : fieldOff Try.prog 73 1 = some 1 := by kernel_rfl
theorem fo73_2 : fieldOff Try.prog 73 2 = some 2 := by kernel_rfl
theorem fo73_3 : fieldOff Try.prog 73 3 = some 4 := by kernel_rfl
theorem zc73 : zeroCs Try.prog 73 = some [.string ⟨#[]⟩, .string ⟨#[]⟩, .int .i64 0, .int .i64 0, .slice none 0 0] := by kernel_rfl
theorem rz74 : rowSz Try.prog 74 = some 5 := by kernel_rfl
theorem fo74_0 : fieldOff Try.prog 74 0 = some 0 := by kernel_rfl
theorem fo74_1 : fieldOff Try.prog 74 1 = some 1 := by kernel_rfl
theorem fo74_2 : fieldOff Try.prog 74 2 = some 2 := by kernel_rfl
theorem fo74_3 : fieldOff Try.prog 74 3 = some 4 := by kernel_rfl
theorem zc74 : zeroCs Try.prog 74 = some [.string ⟨#[]⟩, .string ⟨#[]⟩, .int .i64 0, .int .i64 0, .slice none 0 0] := by kernel_rfl
theorem sc76 : scalarB Try.prog 76 = true := by kernel_rfl
theorem rz77 : rowSz Try.prog 77 = some 4 := by kernel_rfl
theorem fo77_0 : fieldOff Try.prog 77 0 = some 0 := by kernel_rfl
theorem fo77_1 : fieldOff Try.prog 77 1 = some 1 := by kernel_rfl
theorem fo77_2 : fieldOff Try.prog 77 2 = some 2 := by kernel_rfl
theorem fo77_3 : fieldOff Try.prog 77 3 = some 3 := by kernel_rfl
theorem zc77 : zeroCs Try.prog 77 = some [.int .i64 0, .string ⟨#[]⟩, .int .i64 0, .int .i64 0] := by kernel_rfl
theorem rz78 : rowSz Try.prog 78 = some 4 := by kernel_rfl
theorem fo78_0 : fieldOff Try.prog 78 0 = some 0 := by kernel_rfl
theorem fo78_1 : fieldOff Try.prog 78 1 = some 1 := by kernel_rfl
theorem fo78_2 : fieldOff Try.prog 78 2 = some 2 := by kernel_rfl
theorem fo78_3 : fieldOff Try.prog 78 3 = some 3 := by kernel_rfl
theorem zc78 : zeroCs Try.prog 78 = some [.int .i64 0, .string ⟨#[]⟩, .int .i64 0, .int .i64 0] := by kernel_rfl
theorem sc79 : scalarB Try.prog 79 = true := by kernel_rfl
theorem sc80 : scalarB Try.prog 80 = true := by kernel_rfl
theorem sc81 : scalarB Try.prog 81 = true := by kernel_rfl
theorem sc82 : scalarB Try.prog 82 = true := by kernel_rfl
theorem sc83 : scalarB Try.prog 83 = true := by kernel_rfl
theorem sc84 : scalarB Try.prog 84 = true := by kernel_rfl
theorem sc85 : scalarB Try.prog 85 = true := by kernel_rfl
theorem sc86 : scalarB Try.prog 86 = true := by kernel_rfl
theorem sc87 : scalarB Try.prog 87 = true := by kernel_rfl
theorem sc88 : scalarB Try.prog 88 = true := by kernel_rfl
theorem sc89 : scalarB Try.prog 89 = true := by kernel_rfl
theorem es89 : elemSz Try.prog 89 = some (107, 6) := by kernel_rfl
theorem ap89 : appB Try.prog 89 = some (107, 6, 64) := by kernel_rfl
theorem zc89 : zeroCs Try.prog 89 = some [.slice none 0 0] := by kernel_rfl
theorem sc90 : scalarB Try.prog 90 = true := by kernel_rfl
theorem sc92 : scalarB Try.prog 92 = true := by kernel_rfl
theorem rz93 : rowSz Try.prog 93 = some 2 := by kernel_rfl
theorem fo93_0 : fieldOff Try.prog 93 0 = some 0 := by kernel_rfl
theorem fo93_1 : fieldOff Try.prog 93 1 = some 1 := by kernel_rfl
theorem zc93 : zeroCs Try.prog 93 = some [.int .i64 0, .int .i64 0] := by kernel_rfl
theorem rz94 : rowSz Try.prog 94 = some 2 := by kernel_rfl
theorem fo94_0 : fieldOff Try.prog 94 0 = some 0 := by kernel_rfl
theorem fo94_1 : fieldOff Try.prog 94 1 = some 1 := by kernel_rfl
theorem zc94 : zeroCs Try.prog 94 = some [.int .i64 0, .int .i64 0] := by kernel_rfl
theorem sc95 : scalarB Try.prog 95 = true := by kernel_rfl
theorem sc96 : scalarB Try.prog 96 = true := by kernel_rfl
theorem rz97 : rowSz Try.prog 97 = some 9 := by kernel_rfl
theorem fo97_0 : fieldOff Try.prog 97 0 = some 0 := by kernel_rfl
theorem fo97_1 : fieldOff Try.prog 97 1 = some 1 := by kernel_rfl
theorem fo97_2 : fieldOff Try.prog 97 2 = some 5 := by kernel_rfl
theorem zc97 : zeroCs Try.prog 97 = some [.string ⟨#[]⟩, .int .i64 0, .string ⟨#[]⟩, .int .i64 0, .int .i64 0, .int .i64 0, .string ⟨#[]⟩, .int .i64 0, .int .i64 0] := by kernel_rfl
theorem rz98 : rowSz Try.prog 98 = some 9 := by kernel_rfl
theorem fo98_0 : fieldOff Try.prog 98 0 = some 0 := by kernel_rfl
theorem fo98_1 : fieldOff Try.prog 98 1 = some 1 := by kernel_rfl
theorem fo98_2 : fieldOff Try.prog 98 2 = some 5 := by kernel_rfl
theorem zc98 : zeroCs Try.prog 98 = some [.string ⟨#[]⟩, .int .i64 0, .string ⟨#[]⟩, .int .i64 0, .int .i64 0, .int .i64 0, .string ⟨#[]⟩, .int .i64 0, .int .i64 0] := by kernel_rfl
theorem sc99 : scalarB Try.prog 99 = true := by kernel_rfl
theorem es99 : elemSz Try.prog 99 = some (33, 1) := by kernel_rfl
theorem ap99 : appB Try.prog 99 = some (33, 1, 8) := by kernel_rfl
theorem zc99 : zeroCs Try.prog 99 = some [.slice none 0 0] := by kernel_rfl
theorem sc100 : scalarB Try.prog 100 = true := by kernel_rfl
theorem sc101 : scalarB Try.prog 101 = true := by kernel_rfl
theorem sc102 : scalarB Try.prog 102 = true := by kernel_rfl
theorem sc103 : scalarB Try.prog 103 = true := by kernel_rfl
theorem sc104 : scalarB Try.prog 104 = true := by kernel_rfl
theorem sc105 : scalarB Try.prog 105 = true := by kernel_rfl
theorem es105 : elemSz Try.prog 105 = some (68, 15) := by kernel_rfl
theorem ap105 : appB Try.prog 105 = some (68, 15, 128) := by kernel_rfl
theorem zc105 : zeroCs Try.prog 105 = some [.slice none 0 0] := by kernel_rfl
theorem rz106 : rowSz Try.prog 106 = some 6 := by kernel_rfl
theorem fo106_0 : fieldOff Try.prog 106 0 = some 0 := by kernel_rfl
theorem fo106_1 : fieldOff Try.prog 106 1 = some 1 := by kernel_rfl
theorem fo106_2 : fieldOff Try.prog 106 2 = some 2 := by kernel_rfl
theorem fo106_3 : fieldOff Try.prog 106 3 = some 4 := by kernel_rfl
theorem fo106_4 : fieldOff Try.prog 106 4 = some 5 := by kernel_rfl
theorem zc106 : zeroCs Try.prog 106 = some [.string ⟨#[]⟩, .string ⟨#[]⟩, .int .i64 0, .int .i64 0, .int .i64 0, .int .i64 0] := by kernel_rfl
theorem rz107 : rowSz Try.prog 107 = some 6 := by kernel_rfl
theorem fo107_0 : fieldOff Try.prog 107 0 = some 0 := by kernel_rfl
theorem fo107_1 : fieldOff Try.prog 107 1 = some 1 := by kernel_rfl
theorem fo107_2 : fieldOff Try.prog 107 2 = some 2 := by kernel_rfl
theorem fo107_3 : fieldOff Try.prog 107 3 = some 4 := by kernel_rfl
theorem fo107_4 : fieldOff Try.prog 107 4 = some 5 := by kernel_rfl
theorem zc107 : zeroCs Try.prog 107 = some [.string ⟨#[]⟩, .string ⟨#[]⟩, .int .i64 0, .int .i64 0, .int .i64 0, .int .i64 0] := by kernel_rfl
theorem sc108 : scalarB Try.prog 108 = true := by kernel_rfl
theorem sc109 : scalarB Try.prog 109 = true := by kernel_rfl
theorem sc110 : scalarB Try.prog 110 = true := by kernel_rfl
theorem sc111 : scalarB Try.prog 111 = true := by kernel_rfl
theorem rz112 : rowSz Try.prog 112 = some 4 := by kernel_rfl
theorem fo112_0 : fieldOff Try.prog 112 0 = some 0 := by kernel_rfl
theorem fo112_1 : fieldOff Try.prog 112 1 = some 1 := by kernel_rfl
theorem fo112_2 : fieldOff Try.prog 112 2 = some 2 := by kernel_rfl
theorem fo112_3 : fieldOff Try.prog 112 3 = some 3 := by kernel_rfl
theorem zc112 : zeroCs Try.prog 112 = some [.pointer none, .pointer none, .pointer none, .string ⟨#[]⟩] := by kernel_rfl
theorem rz114 : rowSz Try.prog 114 = some 0 := by kernel_rfl
theorem zc114 : zeroCs Try.prog 114 = some [] := by kernel_rfl
theorem rz115 : rowSz Try.prog 115 = some 0 := by kernel_rfl
theorem zc115 : zeroCs Try.prog 115 = some [] := by kernel_rfl
theorem sc117 : scalarB Try.prog 117 = true := by kernel_rfl
theorem sc118 : scalarB Try.prog 118 = true := by kernel_rfl
theorem zc118 : zeroCs Try.prog 118 = some [.int .u32 0] := by kernel_rfl
theorem sc121 : scalarB Try.prog 121 = true := by kernel_rfl
theorem sc122 : scalarB Try.prog 122 = true := by kernel_rfl
theorem rz125 : rowSz Try.prog 125 = some 11 := by kernel_rfl
theorem fo125_0 : fieldOff Try.prog 125 0 = some 0 := by kernel_rfl
theorem fo125_1 : fieldOff Try.prog 125 1 = some 1 := by kernel_rfl
theorem fo125_2 : fieldOff Try.prog 125 2 = some 2 := by kernel_rfl
theorem fo125_3 : fieldOff Try.prog 125 3 = some 3 := by kernel_rfl
theorem fo125_4 : fieldOff Try.prog 125 4 = some 4 := by kernel_rfl
theorem fo125_5 : fieldOff Try.prog 125 5 = some 5 := by kernel_rfl
theorem fo125_6 : fieldOff Try.prog 125 6 = some 6 := by kernel_rfl
theorem fo125_7 : fieldOff Try.prog 125 7 = some 7 := by kernel_rfl
theorem fo125_8 : fieldOff Try.prog 125 8 = some 8 := by kernel_rfl
theorem fo125_9 : fieldOff Try.prog 125 9 = some 9 := by kernel_rfl
theorem fo125_10 : fieldOff Try.prog 125 10 = some 10 := by kernel_rfl
theorem zc125 : zeroCs Try.prog 125 = some [.int .u64 0, .int .u64 0, .int .u32 0, .int .u8 0, .int .u8 0, .int .u8 0, .int .u8 0, .nilFunc, .pointer none, .int .i32 0, .int .i32 0] := by kernel_rfl
theorem cb2 : callableB Try.prog 2 = true := by kernel_rfl
theorem cb3 : callableB Try.prog 3 = true := by kernel_rfl
theorem cb4 : callableB Try.prog 4 = true := by kernel_rfl
theorem cb5 : callableB Try.prog 5 = true := by kernel_rfl
theorem cb6 : callableB Try.prog 6 = true := by kernel_rfl
theorem cb7 : callableB Try.prog 7 = true := by kernel_rfl
theorem cb8 : callableB Try.prog 8 = true := by kernel_rfl
theorem cb9 : callableB Try.prog 9 = true := by kernel_rfl
theorem cb10 : callableB Try.prog 10 = true := by kernel_rfl
theorem cb11 : callableB Try.prog 11 = true := by kernel_rfl
theorem cb12 : callableB Try.prog 12 = true := by kernel_rfl
theorem cb13 : callableB Try.prog 13 = true := by kernel_rfl
theorem cb14 : callableB Try.prog 14 = true := by kernel_rfl
theorem cb15 : callableB Try.prog 15 = true := by kernel_rfl
theorem cb16 : callableB Try.prog 16 = true := by kernel_rfl
theorem cb17 : callableB Try.prog 17 = true := by kernel_rfl
theorem cb18 : callableB Try.prog 18 = true := by kernel_rfl
theorem cb19 : callableB Try.prog 19 = true := by kernel_rfl
theorem cb20 : callableB Try.prog 20 = true := by kernel_rfl
theorem cb21 : callableB Try.prog 21 = true := by kernel_rfl
theorem cb22 : callableB Try.prog 22 = true := by kernel_rfl
theorem cb23 : callableB Try.prog 23 = true := by kernel_rfl
theorem cb24 : callableB Try.prog 24 = true := by kernel_rfl
theorem cb25 : callableB Try.prog 25 = true := by kernel_rfl
theorem cb26 : callableB Try.prog 26 = true := by kernel_rfl
theorem cb27 : callableB Try.prog 27 = true := by kernel_rfl
theorem cb28 : callableB Try.prog 28 = true := by kernel_rfl
theorem cb29 : callableB Try.prog 29 = true := by kernel_rfl
theorem cb30 : callableB Try.prog 30 = true := by kernel_rfl
theorem cb31 : callableB Try.prog 31 = true := by kernel_rfl
theorem cb32 : callableB Try.prog 32 = true := by kernel_rfl
theorem cb33 : callableB Try.prog 33 = true := by kernel_rfl
theorem cb34 : callableB Try.prog 34 = true := by kernel_rfl
theorem cb35 : callableB Try.prog 35 = true := by kernel_rfl
theorem cb36 : callableB Try.prog 36 = true := by kernel_rfl
theorem cb37 : callableB Try.prog 37 = true := by kernel_rfl
theorem cb38 : callableB Try.prog 38 = true := by kernel_rfl
theorem cb39 : callableB Try.prog 39 = true := by kernel_rfl
theorem cb40 : callableB Try.prog 40 = true := by kernel_rfl
theorem cb41 : callableB Try.prog 41 = true := by kernel_rfl
theorem cb42 : callableB Try.prog 42 = true := by kernel_rfl
theorem cb43 : callableB Try.prog 43 = true := by kernel_rfl
theorem cb44 : callableB Try.prog 44 = true := by kernel_rfl
theorem cb45 : callableB Try.prog 45 = true := by kernel_rfl
theorem cb46 : callableB Try.prog 46 = true := by kernel_rfl
theorem cb47 : callableB Try.prog 47 = true := by kernel_rfl
theorem cb48 : callableB Try.prog 48 = true := by kernel_rfl
theorem cb49 : callableB Try.prog 49 = true := by kernel_rfl
theorem cb50 : callableB Try.prog 50 = true := by kernel_rfl
theorem cb51 : callableB Try.prog 51 = true := by kernel_rfl
theorem cb52 : callableB Try.prog 52 = true := by kernel_rfl
theorem cb53 : callableB Try.prog 53 = true := by kernel_rfl
theorem cb54 : callableB Try.prog 54 = true := by kernel_rfl
theorem cb55 : callableB Try.prog 55 = true := by kernel_rfl
theorem cb56 : callableB Try.prog 56 = true := by kernel_rfl
theorem cb57 : callableB Try.prog 57 = true := by kernel_rfl
theorem cb58 : callableB Try.prog 58 = true := by kernel_rfl
theorem cb59 : callableB Try.prog 59 = true := by kernel_rfl
theorem cb60 : callableB Try.prog 60 = true := by kernel_rfl
theorem mixed : Try.prog.follows .mixedOrders = true := by kernel_rfl

end Go.Proofs.Ytcggbojhalbkjaa
