/- Closed facts on the types and functions of the program. -/
import Derived.Test.YtcggbojhalbkjaaDoorProg
import Derived.Test.YtcggbojhalbkjaaDoorSc
namespace Go.Proofs.YtcggbojhalbkjaaDoor

theorem sc1 : scalarB Tryd.prog 1 = true := by kernel_rfl
theorem sc2 : scalarB Tryd.prog 2 = true := by kernel_rfl
theorem zc2 : zeroCs Tryd.prog 2 = some [.int .i64 0] := by kernel_rfl
theorem sc3 : scalarB Tryd.prog 3 = true := by kernel_rfl
theorem zc3 : zeroCs Tryd.prog 3 = some [.int .i64 0] := by kernel_rfl
theorem sc4 : scalarB Tryd.prog 4 = true := by kernel_rfl
theorem zc4 : zeroCs Tryd.prog 4 = some [.bool false] := by kernel_rfl
theorem sc5 : scalarB Tryd.prog 5 = true := by kernel_rfl
theorem zc5 : zeroCs Tryd.prog 5 = some [.int .u8 0] := by kernel_rfl
theorem rz7 : rowSz Tryd.prog 7 = some 4 := by kernel_rfl
theorem fo7_0 : fieldOff Tryd.prog 7 0 = some 0 := by kernel_rfl
theorem fo7_1 : fieldOff Tryd.prog 7 1 = some 1 := by kernel_rfl
theorem fo7_2 : fieldOff Tryd.prog 7 2 = some 2 := by kernel_rfl
theorem fo7_3 : fieldOff Tryd.prog 7 3 = some 3 := by kernel_rfl
theorem zc7 : zeroCs Tryd.prog 7 = some [.int .i64 0, .int .i64 0, .bool false, .int .u8 0] := by kernel_rfl
theorem sc9 : scalarB Tryd.prog 9 = true := by kernel_rfl
theorem us9 : Tryd.prog.underlying 9 = some .string := by kernel_rfl
theorem zc9 : zeroCs Tryd.prog 9 = some [.string ⟨#[]⟩] := by kernel_rfl
theorem sc12 : scalarB Tryd.prog 12 = true := by kernel_rfl
theorem zc12 : zeroCs Tryd.prog 12 = some [.int .u64 0] := by kernel_rfl
theorem rz13 : rowSz Tryd.prog 13 = some 2 := by kernel_rfl
theorem fo13_0 : fieldOff Tryd.prog 13 0 = some 0 := by kernel_rfl
theorem fo13_1 : fieldOff Tryd.prog 13 1 = some 1 := by kernel_rfl
theorem zc13 : zeroCs Tryd.prog 13 = some [.string ⟨#[]⟩, .int .u64 0] := by kernel_rfl
theorem sc15 : scalarB Tryd.prog 15 = true := by kernel_rfl
theorem sc16 : scalarB Tryd.prog 16 = true := by kernel_rfl
theorem sc17 : scalarB Tryd.prog 17 = true := by kernel_rfl
theorem rz18 : rowSz Tryd.prog 18 = some 1 := by kernel_rfl
theorem fo18_0 : fieldOff Tryd.prog 18 0 = some 0 := by kernel_rfl
theorem zc18 : zeroCs Tryd.prog 18 = some [.pointer none] := by kernel_rfl
theorem sc21 : scalarB Tryd.prog 21 = true := by kernel_rfl
theorem zc21 : zeroCs Tryd.prog 21 = some [.int .i32 0] := by kernel_rfl
theorem sc22 : scalarB Tryd.prog 22 = true := by kernel_rfl
theorem es22 : elemSz Tryd.prog 22 = some (3, 1) := by kernel_rfl
theorem ap22 : appB Tryd.prog 22 = some (3, 1, 8) := by kernel_rfl
theorem zc22 : zeroCs Tryd.prog 22 = some [.slice none 0 0] := by kernel_rfl
theorem sc23 : scalarB Tryd.prog 23 = true := by kernel_rfl
theorem rz24 : rowSz Tryd.prog 24 = some 2 := by kernel_rfl
theorem fo24_0 : fieldOff Tryd.prog 24 0 = some 0 := by kernel_rfl
theorem fo24_1 : fieldOff Tryd.prog 24 1 = some 1 := by kernel_rfl
theorem zc24 : zeroCs Tryd.prog 24 = some [.slice none 0 0, .int .i64 0] := by kernel_rfl
theorem rz25 : rowSz Tryd.prog 25 = some 2 := by kernel_rfl
theorem fo25_0 : fieldOff Tryd.prog 25 0 = some 0 := by kernel_rfl
theorem fo25_1 : fieldOff Tryd.prog 25 1 = some 1 := by kernel_rfl
theorem zc25 : zeroCs Tryd.prog 25 = some [.slice none 0 0, .int .i64 0] := by kernel_rfl
theorem sc26 : scalarB Tryd.prog 26 = true := by kernel_rfl
theorem es26 : elemSz Tryd.prog 26 = some (33, 6) := by kernel_rfl
theorem ap26 : appB Tryd.prog 26 = some (33, 6, 64) := by kernel_rfl
theorem zc26 : zeroCs Tryd.prog 26 = some [.slice none 0 0] := by kernel_rfl
theorem sc27 : scalarB Tryd.prog 27 = true := by kernel_rfl
theorem sc28 : scalarB Tryd.prog 28 = true := by kernel_rfl
theorem sc29 : scalarB Tryd.prog 29 = true := by kernel_rfl
theorem rz30 : rowSz Tryd.prog 30 = some 2 := by kernel_rfl
theorem fo30_0 : fieldOff Tryd.prog 30 0 = some 0 := by kernel_rfl
theorem fo30_1 : fieldOff Tryd.prog 30 1 = some 1 := by kernel_rfl
theorem zc30 : zeroCs Tryd.prog 30 = some [.int .i64 0, .int .i64 0] := by kernel_rfl
theorem rz31 : rowSz Tryd.prog 31 = some 2 := by kernel_rfl
theorem fo31_0 : fieldOff Tryd.prog 31 0 = some 0 := by kernel_rfl
theorem fo31_1 : fieldOff Tryd.prog 31 1 = some 1 := by kernel_rfl
theorem zc31 : zeroCs Tryd.prog 31 = some [.int .i64 0, .int .i64 0] := by kernel_rfl
theorem rz32 : rowSz Tryd.prog 32 = some 6 := by kernel_rfl
theorem fo32_0 : fieldOff Tryd.prog 32 0 = some 0 := by kernel_rfl
theorem fo32_1 : fieldOff Tryd.prog 32 1 = some 1 := by kernel_rfl
theorem fo32_2 : fieldOff Tryd.prog 32 2 = some 2 := by kernel_rfl
theorem fo32_3 : fieldOff Tryd.prog 32 3 = some 4 := by kernel_rfl
theorem fo32_4 : fieldOff Tryd.prog 32 4 = some 5 := by kernel_rfl
theorem zc32 : zeroCs Tryd.prog 32 = some [.string ⟨#[]⟩, .string ⟨#[]⟩, .int .i64 0, .int .i64 0, .int .i64 0, .int .i64 0] := by kernel_rfl
theorem rz33 : rowSz Tryd.prog 33 = some 6 := by kernel_rfl
theorem fo33_0 : fieldOff Tryd.prog 33 0 = some 0 := by kernel_rfl
theorem fo33_1 : fieldOff Tryd.prog 33 1 = some 1 := by kernel_rfl
theorem fo33_2 : fieldOff Tryd.prog 33 2 = some 2 := by kernel_rfl
theorem fo33_3 : fieldOff Tryd.prog 33 3 = some 4 := by kernel_rfl
theorem fo33_4 : fieldOff Tryd.prog 33 4 = some 5 := by kernel_rfl
theorem zc33 : zeroCs Tryd.prog 33 = some [.string ⟨#[]⟩, .string ⟨#[]⟩, .int .i64 0, .int .i64 0, .int .i64 0, .int .i64 0] := by kernel_rfl
theorem rz34 : rowSz Tryd.prog 34 = some 2 := by kernel_rfl
theorem fo34_0 : fieldOff Tryd.prog 34 0 = some 0 := by kernel_rfl
theorem fo34_1 : fieldOff Tryd.prog 34 1 = some 1 := by kernel_rfl
theorem zc34 : zeroCs Tryd.prog 34 = some [.int .i64 0, .int .i64 0] := by kernel_rfl
theorem rz35 : rowSz Tryd.prog 35 = some 2 := by kernel_rfl
theorem fo35_0 : fieldOff Tryd.prog 35 0 = some 0 := by kernel_rfl
theorem fo35_1 : fieldOff Tryd.prog 35 1 = some 1 := by kernel_rfl
theorem zc35 : zeroCs Tryd.prog 35 = some [.int .i64 0, .int .i64 0] := by kernel_rfl
theorem sc36 : scalarB Tryd.prog 36 = true := by kernel_rfl
theorem sc37 : scalarB Tryd.prog 37 = true := by kernel_rfl
theorem es37 : elemSz Tryd.prog 37 = some (35, 2) := by kernel_rfl
theorem ap37 : appB Tryd.prog 37 = some (35, 2, 16) := by kernel_rfl
theorem zc37 : zeroCs Tryd.prog 37 = some [.slice none 0 0] := by kernel_rfl
theorem sc38 : scalarB Tryd.prog 38 = true := by kernel_rfl
theorem zc38 : zeroCs Tryd.prog 38 = some [.int .i64 0] := by kernel_rfl
theorem sc40 : scalarB Tryd.prog 40 = true := by kernel_rfl
theorem sc42 : scalarB Tryd.prog 42 = true := by kernel_rfl
theorem sc44 : scalarB Tryd.prog 44 = true := by kernel_rfl
theorem sc45 : scalarB Tryd.prog 45 = true := by kernel_rfl
theorem sc46 : scalarB Tryd.prog 46 = true := by kernel_rfl
theorem sc47 : scalarB Tryd.prog 47 = true := by kernel_rfl
theorem sc48 : scalarB Tryd.prog 48 = true := by kernel_rfl
theorem sc49 : scalarB Tryd.prog 49 = true := by kernel_rfl
theorem sc50 : scalarB Tryd.prog 50 = true := by kernel_rfl
theorem sc51 : scalarB Tryd.prog 51 = true := by kernel_rfl
theorem sc52 : scalarB Tryd.prog 52 = true := by kernel_rfl
theorem sc53 : scalarB Tryd.prog 53 = true := by kernel_rfl
theorem rz54 : rowSz Tryd.prog 54 = some 14 := by kernel_rfl
theorem zc54 : zeroCs Tryd.prog 54 = some [.int .i64 0, .int .i64 0, .int .i64 0, .int .i64 0, .int .i64 0, .int .i64 0, .int .i64 0, .int .i64 0, .int .i64 0, .int .i64 0, .int .i64 0, .int .i64 0, .int .i64 0, .int .i64 0] := by kernel_rfl
theorem rz55 : rowSz Tryd.prog 55 = some 15 := by kernel_rfl
theorem fo55_0 : fieldOff Tryd.prog 55 0 = some 0 := by kernel_rfl
theorem fo55_1 : fieldOff Tryd.prog 55 1 = some 1 := by kernel_rfl
theorem zc55 : zeroCs Tryd.prog 55 = some [.string ⟨#[]⟩, .int .i64 0, .int .i64 0, .int .i64 0, .int .i64 0, .int .i64 0, .int .i64 0, .int .i64 0, .int .i64 0, .int .i64 0, .int .i64 0, .int .i64 0, .int .i64 0, .int .i64 0, .int .i64 0] := by kernel_rfl
theorem rz56 : rowSz Tryd.prog 56 = some 15 := by kernel_rfl
theorem fo56_0 : fieldOff Tryd.prog 56 0 = some 0 := by kernel_rfl
theorem fo56_1 : fieldOff Tryd.prog 56 1 = some 1 := by kernel_rfl
theorem zc56 : zeroCs Tryd.prog 56 = some [.string ⟨#[]⟩, .int .i64 0, .int .i64 0, .int .i64 0, .int .i64 0, .int .i64 0, .int .i64 0, .int .i64 0, .int .i64 0, .int .i64 0, .int .i64 0, .int .i64 0, .int .i64 0, .int .i64 0, .int .i64 0] := by kernel_rfl
theorem sc57 : scalarB Tryd.prog 57 = true := by kernel_rfl
theorem sc58 : scalarB Tryd.prog 58 = true := by kernel_rfl
theorem sc59 : scalarB Tryd.prog 59 = true := by kernel_rfl
theorem sc60 : scalarB Tryd.prog 60 = true := by kernel_rfl
theorem es60 : elemSz Tryd.prog 60 = some (56, 15) := by kernel_rfl
theorem ap60 : appB Tryd.prog 60 = some (56, 15, 128) := by kernel_rfl
theorem zc60 : zeroCs Tryd.prog 60 = some [.slice none 0 0] := by kernel_rfl
theorem sc61 : scalarB Tryd.prog 61 = true := by kernel_rfl
theorem sc63 : scalarB Tryd.prog 63 = true := by kernel_rfl
theorem sc64 : scalarB Tryd.prog 64 = true := by kernel_rfl
theorem sc65 : scalarB Tryd.prog 65 = true := by kernel_rfl
theorem sc66 : scalarB Tryd.prog 66 = true := by kernel_rfl
theorem sc67 : scalarB Tryd.prog 67 = true := by kernel_rfl
theorem sc69 : scalarB Tryd.prog 69 = true := by kernel_rfl
theorem sc70 : scalarB Tryd.prog 70 = true := by kernel_rfl
theorem sc71 : scalarB Tryd.prog 71 = true := by kernel_rfl
theorem sc72 : scalarB Tryd.prog 72 = true := by kernel_rfl
theorem sc73 : scalarB Tryd.prog 73 = true := by kernel_rfl
theorem es73 : elemSz Tryd.prog 73 = some (106, 2) := by kernel_rfl
theorem ap73 : appB Tryd.prog 73 = some (106, 2, 32) := by kernel_rfl
theorem zc73 : zeroCs Tryd.prog 73 = some [.slice none 0 0] := by kernel_rfl
theorem sc74 : scalarB Tryd.prog 74 = true := by kernel_rfl
theorem sc75 : scalarB Tryd.prog 75 = true := by kernel_rfl
theorem sc76 : scalarB Tryd.prog 76 = true := by kernel_rfl
theorem es76 : elemSz Tryd.prog 76 = some (9, 1) := by kernel_rfl
theorem ap76 : appB Tryd.prog 76 = some (9, 1, 16) := by kernel_rfl
theorem zc76 : zeroCs Tryd.prog 76 = some [.slice none 0 0] := by kernel_rfl
theorem sc78 : scalarB Tryd.prog 78 = true := by kernel_rfl
theorem sc80 : scalarB Tryd.prog 80 = true := by kernel_rfl
theorem sc81 : scalarB Tryd.prog 81 = true := by kernel_rfl
theorem sc82 : scalarB Tryd.prog 82 = true := by kernel_rfl
theorem sc83 : scalarB Tryd.prog 83 = true := by kernel_rfl
theorem sc84 : scalarB Tryd.prog 84 = true := by kernel_rfl
theorem sc85 : scalarB Tryd.prog 85 = true := by kernel_rfl
theorem sc86 : scalarB Tryd.prog 86 = true := by kernel_rfl
theorem sc87 : scalarB Tryd.prog 87 = true := by kernel_rfl
theorem sc88 : scalarB Tryd.prog 88 = true := by kernel_rfl
theorem sc90 : scalarB Tryd.prog 90 = true := by kernel_rfl
theorem sc91 : scalarB Tryd.prog 91 = true := by kernel_rfl
theorem sc92 : scalarB Tryd.prog 92 = true := by kernel_rfl
theorem sc94 : scalarB Tryd.prog 94 = true := by kernel_rfl
theorem sc95 : scalarB Tryd.prog 95 = true := by kernel_rfl
theorem zc95 : zeroCs Tryd.prog 95 = some [.int .u64 0] := by kernel_rfl
theorem sc97 : scalarB Tryd.prog 97 = true := by kernel_rfl
theorem sc98 : scalarB Tryd.prog 98 = true := by kernel_rfl
theorem es98 : elemSz Tryd.prog 98 = some (38, 1) := by kernel_rfl
theorem ap98 : appB Tryd.prog 98 = some (38, 1, 8) := by kernel_rfl
theorem zc98 : zeroCs Tryd.prog 98 = some [.slice none 0 0] := by kernel_rfl
theorem sc99 : scalarB Tryd.prog 99 = true := by kernel_rfl
theorem sc100 : scalarB Tryd.prog 100 = true := by kernel_rfl
theorem sc101 : scalarB Tryd.prog 101 = true := by kernel_rfl
theorem sc102 : scalarB Tryd.prog 102 = true := by kernel_rfl
theorem sc103 : scalarB Tryd.prog 103 = true := by kernel_rfl
theorem sc104 : scalarB Tryd.prog 104 = true := by kernel_rfl
theorem rz105 : rowSz Tryd.prog 105 = some 2 := by kernel_rfl
theorem fo105_0 : fieldOff Tryd.prog 105 0 = some 0 := by kernel_rfl
theorem fo105_1 : fieldOff Tryd.prog 105 1 = some 1 := by kernel_rfl
theorem zc105 : zeroCs Tryd.prog 105 = some [.string ⟨#[]⟩, .string ⟨#[]⟩] := by kernel_rfl
theorem rz106 : rowSz Tryd.prog 106 = some 2 := by kernel_rfl
theorem fo106_0 : fieldOff Tryd.prog 106 0 = some 0 := by kernel_rfl
theorem fo106_1 : fieldOff Tryd.prog 106 1 = some 1 := by kernel_rfl
theorem zc106 : zeroCs Tryd.prog 106 = some [.string ⟨#[]⟩, .string ⟨#[]⟩] := by kernel_rfl
theorem rz107 : rowSz Tryd.prog 107 = some 2 := by kernel_rfl
theorem fo107_0 : fieldOff Tryd.prog 107 0 = some 0 := by kernel_rfl
theorem fo107_1 : fieldOff Tryd.prog 107 1 = some 1 := by kernel_rfl
theorem zc107 : zeroCs Tryd.prog 107 = some [.string ⟨#[]⟩, .string ⟨#[]⟩] := by kernel_rfl
theorem rz108 : rowSz Tryd.prog 108 = some 2 := by kernel_rfl
theorem fo108_0 : fieldOff Tryd.prog 108 0 = some 0 := by kernel_rfl
theorem fo108_1 : fieldOff Tryd.prog 108 1 = some 1 := by kernel_rfl
theorem zc108 : zeroCs Tryd.prog 108 = some [.string ⟨#[]⟩, .string ⟨#[]⟩] := by kernel_rfl
theorem sc109 : scalarB Tryd.prog 109 = true := by kernel_rfl
theorem es109 : elemSz Tryd.prog 109 = some (108, 2) := by kernel_rfl
theorem ap109 : appB Tryd.prog 109 = some (108, 2, 32) := by kernel_rfl
theorem zc109 : zeroCs Tryd.prog 109 = some [.slice none 0 0] := by kernel_rfl
theorem sc110 : scalarB Tryd.prog 110 = true := by kernel_rfl
theorem es110 : elemSz Tryd.prog 110 = some (154, 3) := by kernel_rfl
theorem ap110 : appB Tryd.prog 110 = some (154, 3, 40) := by kernel_rfl
theorem zc110 : zeroCs Tryd.prog 110 = some [.slice none 0 0] := by kernel_rfl
theorem rz111 : rowSz Tryd.prog 111 = some 4 := by kernel_rfl
theorem fo111_0 : fieldOff Tryd.prog 111 0 = some 0 := by kernel_rfl
theorem fo111_1 : fieldOff Tryd.prog 111 1 = some 1 := by kernel_rfl
theorem fo111_2 : fieldOff Tryd.prog 111 2 = some 2 := by kernel_rfl
theorem fo111_3 : fieldOff Tryd.prog 111 3 = some 3 := by kernel_rfl
theorem zc111 : zeroCs Tryd.prog 111 = some [.slice none 0 0, .slice none 0 0, .slice none 0 0, .slice none 0 0] := by kernel_rfl
theorem rz112 : rowSz Tryd.prog 112 = some 4 := by kernel_rfl
theorem fo112_0 : fieldOff Tryd.prog 112 0 = some 0 := by kernel_rfl
theorem fo112_1 : fieldOff Tryd.prog 112 1 = some 1 := by kernel_rfl
theorem fo112_2 : fieldOff Tryd.prog 112 2 = some 2 := by kernel_rfl
theorem fo112_3 : fieldOff Tryd.prog 112 3 = some 3 := by kernel_rfl
theorem zc112 : zeroCs Tryd.prog 112 = some [.slice none 0 0, .slice none 0 0, .slice none 0 0, .slice none 0 0] := by kernel_rfl
theorem rz113 : rowSz Tryd.prog 113 = some 3 := by kernel_rfl
theorem fo113_0 : fieldOff Tryd.prog 113 0 = some 0 := by kernel_rfl
theorem fo113_1 : fieldOff Tryd.prog 113 1 = some 1 := by kernel_rfl
theorem fo113_2 : fieldOff Tryd.prog 113 2 = some 2 := by kernel_rfl
theorem zc113 : zeroCs Tryd.prog 113 = some [.int .i64 0, .string ⟨#[]⟩, .int .i64 0] := by kernel_rfl
theorem rz114 : rowSz Tryd.prog 114 = some 3 := by kernel_rfl
theorem fo114_0 : fieldOff Tryd.prog 114 0 = some 0 := by kernel_rfl
theorem fo114_1 : fieldOff Tryd.prog 114 1 = some 1 := by kernel_rfl
theorem fo114_2 : fieldOff Tryd.prog 114 2 = some 2 := by kernel_rfl
theorem zc114 : zeroCs Tryd.prog 114 = some [.int .i64 0, .string ⟨#[]⟩, .int .i64 0] := by kernel_rfl
theorem sc116 : scalarB Tryd.prog 116 = true := by kernel_rfl
theorem rz117 : rowSz Tryd.prog 117 = some 5 := by kernel_rfl
theorem fo117_0 : fieldOff Tryd.prog 117 0 = some 0 := by kernel_rfl
theorem fo117_1 : fieldOff Tryd.prog 117 1 = some 1 := by kernel_rfl
theorem fo117_2 : fieldOff Tryd.prog 117 2 = some 2 := by kernel_rfl
theorem fo117_3 : fieldOff Tryd.prog 117 3 = some 3 := by kernel_rfl
theorem fo117_4 : fieldOff Tryd.prog 117 4 = some 4 := by kernel_rfl
theorem zc117 : zeroCs Tryd.prog 117 = some [.int .i64 0, .string ⟨#[]⟩, .string ⟨#[]⟩, .int .i64 0, .string ⟨#[]⟩] := by kernel_rfl
theorem rz118 : rowSz Tryd.prog 118 = some 5 := by kernel_rfl
theorem fo118_0 : fieldOff Tryd.prog 118 0 = some 0 := by kernel_rfl
theorem fo118_1 : fieldOff Tryd.prog 118 1 = some 1 := by kernel_rfl
theorem fo118_2 : fieldOff Tryd.prog 118 2 = some 2 := by kernel_rfl
theorem fo118_3 : fieldOff Tryd.prog 118 3 = some 3 := by kernel_rfl
theorem fo118_4 : fieldOff Tryd.prog 118 4 = some 4 := by kernel_rfl
theorem zc118 : zeroCs Tryd.prog 118 = some [.int .i64 0, .string ⟨#[]⟩, .string ⟨#[]⟩, .int .i64 0, .string ⟨#[]⟩] := by kernel_rfl
theorem sc119 : scalarB Tryd.prog 119 = true := by kernel_rfl
theorem es119 : elemSz Tryd.prog 119 = some (118, 5) := by kernel_rfl
theorem ap119 : appB Tryd.prog 119 = some (118, 5, 64) := by kernel_rfl
theorem zc119 : zeroCs Tryd.prog 119 = some [.slice none 0 0] := by kernel_rfl
theorem sc120 : scalarB Tryd.prog 120 = true := by kernel_rfl
theorem sc121 : scalarB Tryd.prog 121 = true := by kernel_rfl
theorem sc122 : scalarB Tryd.prog 122 = true := by kernel_rfl
theorem sc123 : scalarB Tryd.prog 123 = true := by kernel_rfl
theorem sc124 : scalarB Tryd.prog 124 = true := by kernel_rfl
theorem sc125 : scalarB Tryd.prog 125 = true := by kernel_rfl
theorem sc126 : scalarB Tryd.prog 126 = true := by kernel_rfl
theorem sc127 : scalarB Tryd.prog 127 = true := by kernel_rfl
theorem zc127 : zeroCs Tryd.prog 127 = some [.int .u64 0] := by kernel_rfl
theorem sc128 : scalarB Tryd.prog 128 = true := by kernel_rfl
theorem sc129 : scalarB Tryd.prog 129 = true := by kernel_rfl
theorem sc130 : scalarB Tryd.prog 130 = true := by kernel_rfl
theorem sc131 : scalarB Tryd.prog 131 = true := by kernel_rfl
theorem sc132 : scalarB Tryd.prog 132 = true := by kernel_rfl
theorem sc133 : scalarB Tryd.prog 133 = true := by kernel_rfl
theorem sc134 : scalarB Tryd.prog 134 = true := by kernel_rfl
theorem sc135 : scalarB Tryd.prog 135 = true := by kernel_rfl
theorem sc136 : scalarB Tryd.prog 136 = true := by kernel_rfl
theorem sc137 : scalarB Tryd.prog 137 = true := by kernel_rfl
theorem sc139 : scalarB Tryd.prog 139 = true := by kernel_rfl
theorem sc140 : scalarB Tryd.prog 140 = true := by kernel_rfl
theorem rz141 : rowSz Tryd.prog 141 = some 256 := by kernel_rfl
theorem sc144 : scalarB Tryd.prog 144 = true := by kernel_rfl
theorem sc145 : scalarB Tryd.prog 145 = true := by kernel_rfl
theorem sc146 : scalarB Tryd.prog 146 = true := by kernel_rfl
theorem sc147 : scalarB Tryd.prog 147 = true := by kernel_rfl
theorem sc148 : scalarB Tryd.prog 148 = true := by kernel_rfl
theorem sc149 : scalarB Tryd.prog 149 = true := by kernel_rfl
theorem sc151 : scalarB Tryd.prog 151 = true := by kernel_rfl
theorem sc152 : scalarB Tryd.prog 152 = true := by kernel_rfl
theorem rz153 : rowSz Tryd.prog 153 = some 3 := by kernel_rfl
theorem fo153_0 : fieldOff Tryd.prog 153 0 = some 0 := by kernel_rfl
theorem fo153_1 : fieldOff Tryd.prog 153 1 = some 1 := by kernel_rfl
theorem fo153_2 : fieldOff Tryd.prog 153 2 = some 2 := by kernel_rfl
theorem zc153 : zeroCs Tryd.prog 153 = some [.int .i64 0, .string ⟨#[]⟩, .string ⟨#[]⟩] := by kernel_rfl
theorem rz154 : rowSz Tryd.prog 154 = some 3 := by kernel_rfl
theorem fo154_0 : fieldOff Tryd.prog 154 0 = some 0 := by kernel_rfl
theorem fo154_1 : fieldOff Tryd.prog 154 1 = some 1 := by kernel_rfl
theorem fo154_2 : fieldOff Tryd.prog 154 2 = some 2 := by kernel_rfl
theorem zc154 : zeroCs Tryd.prog 154 = some [.int .i64 0, .string ⟨#[]⟩, .string ⟨#[]⟩] := by kernel_rfl
theorem sc155 : scalarB Tryd.prog 155 = true := by kernel_rfl
theorem sc156 : scalarB Tryd.prog 156 = true := by kernel_rfl
theorem sc157 : scalarB Tryd.prog 157 = true := by kernel_rfl
theorem sc158 : scalarB Tryd.prog 158 = true := by kernel_rfl
theorem rz159 : rowSz Tryd.prog 159 = some 256 := by kernel_rfl
theorem rz160 : rowSz Tryd.prog 160 = some 2 := by kernel_rfl
theorem fo160_0 : fieldOff Tryd.prog 160 0 = some 0 := by kernel_rfl
theorem fo160_1 : fieldOff Tryd.prog 160 1 = some 1 := by kernel_rfl
theorem zc160 : zeroCs Tryd.prog 160 = some [.int .u8 0, .int .u8 0] := by kernel_rfl
theorem rz162 : rowSz Tryd.prog 162 = some 32 := by kernel_rfl
theorem zc162 : zeroCs Tryd.prog 162 = some [.int .u8 0, .int .u8 0, .int .u8 0, .int .u8 0, .int .u8 0, .int .u8 0, .int .u8 0, .int .u8 0, .int .u8 0, .int .u8 0, .int .u8 0, .int .u8 0, .int .u8 0, .int .u8 0, .int .u8 0, .int .u8 0, .int .u8 0, .int .u8 0, .int .u8 0, .int .u8 0, .int .u8 0, .int .u8 0, .int .u8 0, .int .u8 0, .int .u8 0, .int .u8 0, .int .u8 0, .int .u8 0, .int .u8 0, .int .u8 0, .int .u8 0, .int .u8 0] := by kernel_rfl
theorem sc163 : scalarB Tryd.prog 163 = true := by kernel_rfl
theorem sc164 : scalarB Tryd.prog 164 = true := by kernel_rfl
theorem rz165 : rowSz Tryd.prog 165 = some 4 := by kernel_rfl
theorem fo165_0 : fieldOff Tryd.prog 165 0 = some 0 := by kernel_rfl
theorem fo165_1 : fieldOff Tryd.prog 165 1 = some 1 := by kernel_rfl
theorem fo165_2 : fieldOff Tryd.prog 165 2 = some 2 := by kernel_rfl
theorem fo165_3 : fieldOff Tryd.prog 165 3 = some 3 := by kernel_rfl
theorem zc165 : zeroCs Tryd.prog 165 = some [.pointer none, .pointer none, .pointer none, .string ⟨#[]⟩] := by kernel_rfl
theorem rz167 : rowSz Tryd.prog 167 = some 0 := by kernel_rfl
theorem zc167 : zeroCs Tryd.prog 167 = some [] := by kernel_rfl
theorem rz168 : rowSz Tryd.prog 168 = some 0 := by kernel_rfl
theorem zc168 : zeroCs Tryd.prog 168 = some [] := by kernel_rfl
theorem sc170 : scalarB Tryd.prog 170 = true := by kernel_rfl
theorem zc170 : zeroCs Tryd.prog 170 = some [.int .u32 0] := by kernel_rfl
theorem sc173 : scalarB Tryd.prog 173 = true := by kernel_rfl
theorem sc174 : scalarB Tryd.prog 174 = true := by kernel_rfl
theorem rz177 : rowSz Tryd.prog 177 = some 11 := by kernel_rfl
theorem fo177_0 : fieldOff Tryd.prog 177 0 = some 0 := by kernel_rfl
theorem fo177_1 : fieldOff Tryd.prog 177 1 = some 1 := by kernel_rfl
theorem fo177_2 : fieldOff Tryd.prog 177 2 = some 2 := by kernel_rfl
theorem fo177_3 : fieldOff Tryd.prog 177 3 = some 3 := by kernel_rfl
theorem fo177_4 : fieldOff Tryd.prog 177 4 = some 4 := by kernel_rfl
theorem fo177_5 : fieldOff Tryd.prog 177 5 = some 5 := by kernel_rfl
theorem fo177_6 : fieldOff Tryd.prog 177 6 = some 6 := by kernel_rfl
theorem fo177_7 : fieldOff Tryd.prog 177 7 = some 7 := by kernel_rfl
theorem fo177_8 : fieldOff Tryd.prog 177 8 = some 8 := by kernel_rfl
theorem fo177_9 : fieldOff Tryd.prog 177 9 = some 9 := by kernel_rfl
theorem fo177_10 : fieldOff Tryd.prog 177 10 = some 10 := by kernel_rfl
theorem zc177 : zeroCs Tryd.prog 177 = some [.int .u64 0, .int .u64 0, .int .u32 0, .int .u8 0, .int .u8 0, .int .u8 0, .int .u8 0, .nilFunc, .pointer none, .int .i32 0, .int .i32 0] := by kernel_rfl
theorem cb2 : callableB Tryd.prog 2 = true := by kernel_rfl
theorem cb3 : callableB Tryd.prog 3 = true := by kernel_rfl
theorem cb4 : callableB Tryd.prog 4 = true := by kernel_rfl
theorem cb5 : callableB Tryd.prog 5 = true := by kernel_rfl
theorem cb6 : callableB Tryd.prog 6 = true := by kernel_rfl
theorem cb7 : callableB Tryd.prog 7 = true := by kernel_rfl
theorem cb8 : callableB Tryd.prog 8 = true := by kernel_rfl
theorem cb9 : callableB Tryd.prog 9 = true := by kernel_rfl
theorem cb10 : callableB Tryd.prog 10 = true := by kernel_rfl
theorem cb11 : callableB Tryd.prog 11 = true := by kernel_rfl
theorem cb12 : callableB Tryd.prog 12 = true := by kernel_rfl
theorem cb13 : callableB Tryd.prog 13 = true := by kernel_rfl
theorem cb14 : callableB Tryd.prog 14 = true := by kernel_rfl
theorem cb15 : callableB Tryd.prog 15 = true := by kernel_rfl
theorem cb16 : callableB Tryd.prog 16 = true := by kernel_rfl
theorem cb17 : callableB Tryd.prog 17 = true := by kernel_rfl
theorem cb18 : callableB Tryd.prog 18 = true := by kernel_rfl
theorem cb19 : callableB Tryd.prog 19 = true := by kernel_rfl
theorem cb20 : callableB Tryd.prog 20 = true := by kernel_rfl
theorem cb21 : callableB Tryd.prog 21 = true := by kernel_rfl
theorem cb22 : callableB Tryd.prog 22 = true := by kernel_rfl
theorem cb23 : callableB Tryd.prog 23 = true := by kernel_rfl
theorem cb24 : callableB Tryd.prog 24 = true := by kernel_rfl
theorem cb25 : callableB Tryd.prog 25 = true := by kernel_rfl
theorem cb26 : callableB Tryd.prog 26 = true := by kernel_rfl
theorem cb27 : callableB Tryd.prog 27 = true := by kernel_rfl
theorem cb28 : callableB Tryd.prog 28 = true := by kernel_rfl
theorem cb29 : callableB Tryd.prog 29 = true := by kernel_rfl
theorem cb30 : callableB Tryd.prog 30 = true := by kernel_rfl
theorem cb31 : callableB Tryd.prog 31 = true := by kernel_rfl
theorem cb32 : callableB Tryd.prog 32 = true := by kernel_rfl
theorem cb33 : callableB Tryd.prog 33 = true := by kernel_rfl
theorem cb34 : callableB Tryd.prog 34 = true := by kernel_rfl
theorem cb35 : callableB Tryd.prog 35 = true := by kernel_rfl
theorem cb36 : callableB Tryd.prog 36 = true := by kernel_rfl
theorem cb37 : callableB Tryd.prog 37 = true := by kernel_rfl
theorem cb38 : callableB Tryd.prog 38 = true := by kernel_rfl
theorem cb39 : callableB Tryd.prog 39 = true := by kernel_rfl
theorem cb40 : callableB Tryd.prog 40 = true := by kernel_rfl
theorem cb41 : callableB Tryd.prog 41 = true := by kernel_rfl
theorem cb42 : callableB Tryd.prog 42 = true := by kernel_rfl
theorem cb43 : callableB Tryd.prog 43 = true := by kernel_rfl
theorem cb44 : callableB Tryd.prog 44 = true := by kernel_rfl
theorem cb45 : callableB Tryd.prog 45 = true := by kernel_rfl
theorem cb46 : callableB Tryd.prog 46 = true := by kernel_rfl
theorem cb47 : callableB Tryd.prog 47 = true := by kernel_rfl
theorem cb48 : callableB Tryd.prog 48 = true := by kernel_rfl
theorem cb49 : callableB Tryd.prog 49 = true := by kernel_rfl
theorem cb50 : callableB Tryd.prog 50 = true := by kernel_rfl
theorem cb51 : callableB Tryd.prog 51 = true := by kernel_rfl
theorem cb52 : callableB Tryd.prog 52 = true := by kernel_rfl
theorem cb53 : callableB Tryd.prog 53 = true := by kernel_rfl
theorem cb54 : callableB Tryd.prog 54 = true := by kernel_rfl
theorem cb55 : callableB Tryd.prog 55 = true := by kernel_rfl
theorem cb56 : callableB Tryd.prog 56 = true := by kernel_rfl
theorem cb57 : callableB Tryd.prog 57 = true := by kernel_rfl
theorem cb58 : callableB Tryd.prog 58 = true := by kernel_rfl
theorem cb59 : callableB Tryd.prog 59 = true := by kernel_rfl
theorem cb60 : callableB Tryd.prog 60 = true := by kernel_rfl
theorem cb61 : callableB Tryd.prog 61 = true := by kernel_rfl
theorem cb62 : callableB Tryd.prog 62 = true := by kernel_rfl
theorem cb63 : callableB Tryd.prog 63 = true := by kernel_rfl
theorem cb64 : callableB Tryd.prog 64 = true := by kernel_rfl
theorem cb65 : callableB Tryd.prog 65 = true := by kernel_rfl
theorem cb66 : callableB Tryd.prog 66 = true := by kernel_rfl
theorem cb67 : callableB Tryd.prog 67 = true := by kernel_rfl
theorem cb68 : callableB Tryd.prog 68 = true := by kernel_rfl
theorem cb69 : callableB Tryd.prog 69 = true := by kernel_rfl
theorem cb70 : callableB Tryd.prog 70 = true := by kernel_rfl
theorem cb71 : callableB Tryd.prog 71 = true := by kernel_rfl
theorem cb72 : callableB Tryd.prog 72 = true := by kernel_rfl
theorem cb73 : callableB Tryd.prog 73 = true := by kernel_rfl
theorem cb74 : callableB Tryd.prog 74 = true := by kernel_rfl
theorem cb75 : callableB Tryd.prog 75 = true := by kernel_rfl
theorem cb76 : callableB Tryd.prog 76 = true := by kernel_rfl
theorem cb77 : callableB Tryd.prog 77 = true := by kernel_rfl
theorem cb78 : callableB Tryd.prog 78 = true := by kernel_rfl
theorem cb79 : callableB Tryd.prog 79 = true := by kernel_rfl
theorem cb80 : callableB Tryd.prog 80 = true := by kernel_rfl
theorem cb81 : callableB Tryd.prog 81 = true := by kernel_rfl
theorem cb82 : callableB Tryd.prog 82 = true := by kernel_rfl
theorem cb83 : callableB Tryd.prog 83 = true := by kernel_rfl
theorem cb84 : callableB Tryd.prog 84 = true := by kernel_rfl
theorem cb85 : callableB Tryd.prog 85 = true := by kernel_rfl
theorem cb86 : callableB Tryd.prog 86 = true := by kernel_rfl
theorem cb87 : callableB Tryd.prog 87 = true := by kernel_rfl
theorem cb88 : callableB Tryd.prog 88 = true := by kernel_rfl
theorem cb89 : callableB Tryd.prog 89 = true := by kernel_rfl
theorem cb90 : callableB Tryd.prog 90 = true := by kernel_rfl
theorem cb91 : callableB Tryd.prog 91 = true := by kernel_rfl
theorem cb92 : callableB Tryd.prog 92 = true := by kernel_rfl
theorem cb93 : callableB Tryd.prog 93 = true := by kernel_rfl
theorem cb94 : callableB Tryd.prog 94 = true := by kernel_rfl
theorem cb95 : callableB Tryd.prog 95 = true := by kernel_rfl
theorem cb96 : callableB Tryd.prog 96 = true := by kernel_rfl
theorem cb97 : callableB Tryd.prog 97 = true := by kernel_rfl
theorem cb98 : callableB Tryd.prog 98 = true := by kernel_rfl
theorem cb99 : callableB Tryd.prog 99 = true := by kernel_rfl
theorem cb100 : callableB Tryd.prog 100 = true := by kernel_rfl
theorem cb101 : callableB Tryd.prog 101 = true := by kernel_rfl
theorem cb102 : callableB Tryd.prog 102 = true := by kernel_rfl
theorem cb103 : callableB Tryd.prog 103 = true := by kernel_rfl
theorem cb104 : callableB Tryd.prog 104 = true := by kernel_rfl
theorem cb105 : callableB Tryd.prog 105 = true := by kernel_rfl
theorem cb106 : callableB Tryd.prog 106 = true := by kernel_rfl
theorem cb107 : callableB Tryd.prog 107 = true := by kernel_rfl
theorem cb108 : callableB Tryd.prog 108 = true := by kernel_rfl
theorem cb109 : callableB Tryd.prog 109 = true := by kernel_rfl
theorem cb110 : callableB Tryd.prog 110 = true := by kernel_rfl
theorem cb111 : callableB Tryd.prog 111 = true := by kernel_rfl
theorem cb112 : callableB Tryd.prog 112 = true := by kernel_rfl
theorem cb113 : callableB Tryd.prog 113 = true := by kernel_rfl
theorem cb114 : callableB Tryd.prog 114 = true := by kernel_rfl
theorem cb115 : callableB Tryd.prog 115 = true := by kernel_rfl
theorem cb116 : callableB Tryd.prog 116 = true := by kernel_rfl
theorem cb117 : callableB Tryd.prog 117 = true := by kernel_rfl
theorem cb118 : callableB Tryd.prog 118 = true := by kernel_rfl
theorem cb119 : callableB Tryd.prog 119 = true := by kernel_rfl
theorem cb120 : callableB Tryd.prog 120 = true := by kernel_rfl
theorem cb121 : callableB Tryd.prog 121 = true := by kernel_rfl
theorem cb122 : callableB Tryd.prog 122 = true := by kernel_rfl
theorem cb123 : callableB Tryd.prog 123 = true := by kernel_rfl
theorem cb125 : callableB Tryd.prog 125 = true := by kernel_rfl
theorem cb148 : callableB Tryd.prog 148 = true := by kernel_rfl
theorem mixed : Tryd.prog.follows .mixedOrders = true := by kernel_rfl

end Go.Proofs.YtcggbojhalbkjaaDoor
