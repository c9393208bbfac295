/- Closed facts on the types and functions of the program. -/
import Derived.Test.YtmpomocahgcebaaDoorProg
import Derived.Test.YtmpomocahgcebaaDoorSc
namespace Go.Proofs.YtmpomocahgcebaaDoor

theorem sc1 : scalarB Tryd.prog 1 = true := by kernel_rfl
theorem sc2 : scalarB Tryd.prog 2 = true := by kernel_rfl
theorem zc2 : zeroCs Tryd.prog 2 = some [.int .i64 0] := by kernel_rfl
theorem sc3 : scalarB Tryd.prog 3 = true := by kernel_rfl
theorem zc3 : zeroCs Tryd.prog 3 = some [.int .i64 0] := by kernel_rfl
theorem sc4 : scalarB Tryd.prog 4 = true := by kernel_rfl
theorem zc4 : zeroCs Tryd.prog 4 = some [.bool false] := by kernel_rfl
theorem sc5 : scalarB Tryd.prog 5 = true := by kernel_rfl
theorem zc5 : zeroCs Tryd.prog 5 = some [.int .u8 0] := by kernel_rfl
theorem rz7 : rowSz Tryd.prog 7 = some 4 := by kernel_rfl
theorem fo7_0 : fieldOff Tryd.prog 7 0 = some 0 := by kernel_rfl
theorem fo7_1 : fieldOff Tryd.prog 7 1 = some 1 := by kernel_rfl
theorem fo7_2 : fieldOff Tryd.prog 7 2 = some 2 := by kernel_rfl
theorem fo7_3 : fieldOff Tryd.prog 7 3 = some 3 := by kernel_rfl
theorem zc7 : zeroCs Tryd.prog 7 = some [.int .i64 0, .int .i64 0, .bool false, .int .u8 0] := by kernel_rfl
theorem sc9 : scalarB Tryd.prog 9 = true := by kernel_rfl
theorem us9 : Tryd.prog.underlying 9 = some .string := by kernel_rfl
theorem zc9 : zeroCs Tryd.prog 9 = some [.string ⟨#[]⟩] := by kernel_rfl
theorem sc12 : scalarB Tryd.prog 12 = true := by kernel_rfl
theorem zc12 : zeroCs Tryd.prog 12 = some [.int .u64 0] := by kernel_rfl
theorem rz13 : rowSz Tryd.prog 13 = some 2 := by kernel_rfl
theorem fo13_0 : fieldOff Tryd.prog 13 0 = some 0 := by kernel_rfl
theorem fo13_1 : fieldOff Tryd.prog 13 1 = some 1 := by kernel_rfl
theorem zc13 : zeroCs Tryd.prog 13 = some [.string ⟨#[]⟩, .int .u64 0] := by kernel_rfl
theorem sc15 : scalarB Tryd.prog 15 = true := by kernel_rfl
theorem sc16 : scalarB Tryd.prog 16 = true := by kernel_rfl
theorem sc17 : scalarB Tryd.prog 17 = true := by kernel_rfl
theorem rz18 : rowSz Tryd.prog 18 = some 1 := by kernel_rfl
theorem fo18_0 : fieldOff Tryd.prog 18 0 = some 0 := by kernel_rfl
theorem zc18 : zeroCs Tryd.prog 18 = some [.pointer none] := by kernel_rfl
theorem sc21 : scalarB Tryd.prog 21 = true := by kernel_rfl
theorem zc21 : zeroCs Tryd.prog 21 = some [.int .i32 0] := by kernel_rfl
theorem sc22 : scalarB Tryd.prog 22 = true := by kernel_rfl
theorem es22 : elemSz Tryd.prog 22 = some (3, 1) := by kernel_rfl
theorem ap22 : appB Tryd.prog 22 = some (3, 1, 8) := by kernel_rfl
theorem zc22 : zeroCs Tryd.prog 22 = some [.slice none 0 0] := by kernel_rfl
theorem sc23 : scalarB Tryd.prog 23 = true := by kernel_rfl
theorem rz24 : rowSz Tryd.prog 24 = some 2 := by kernel_rfl
theorem fo24_0 : fieldOff Tryd.prog 24 0 = some 0 := by kernel_rfl
theorem fo24_1 : fieldOff Tryd.prog 24 1 = some 1 := by kernel_rfl
theorem zc24 : zeroCs Tryd.prog 24 = some [.slice none 0 0, .int .i64 0] := by kernel_rfl
theorem rz25 : rowSz Tryd.prog 25 = some 2 := by kernel_rfl
theorem fo25_0 : fieldOff Tryd.prog 25 0 = some 0 := by kernel_rfl
theorem fo25_1 : fieldOff Tryd.prog 25 1 = some 1 := by kernel_rfl
theorem zc25 : zeroCs Tryd.prog 25 = some [.slice none 0 0, .int .i64 0] := by kernel_rfl
theorem sc26 : scalarB Tryd.prog 26 = true := by kernel_rfl
theorem es26 : elemSz Tryd.prog 26 = some (138, 6) := by kernel_rfl
theorem ap26 : appB Tryd.prog 26 = some (138, 6, 64) := by kernel_rfl
theorem zc26 : zeroCs Tryd.prog 26 = some [.slice none 0 0] := by kernel_rfl
theorem sc27 : scalarB Tryd.prog 27 = true := by kernel_rfl
theorem sc28 : scalarB Tryd.prog 28 = true := by kernel_rfl
theorem sc29 : scalarB Tryd.prog 29 = true := by kernel_rfl
theorem zc29 : zeroCs Tryd.prog 29 = some [.int .i64 0] := by kernel_rfl
theorem sc30 : scalarB Tryd.prog 30 = true := by kernel_rfl
theorem sc31 : scalarB Tryd.prog 31 = true := by kernel_rfl
theorem sc32 : scalarB Tryd.prog 32 = true := by kernel_rfl
theorem es32 : elemSz Tryd.prog 32 = some (36, 2) := by kernel_rfl
theorem ap32 : appB Tryd.prog 32 = some (36, 2, 16) := by kernel_rfl
theorem zc32 : zeroCs Tryd.prog 32 = some [.slice none 0 0] := by kernel_rfl
theorem sc34 : scalarB Tryd.prog 34 = true := by kernel_rfl
theorem rz35 : rowSz Tryd.prog 35 = some 2 := by kernel_rfl
theorem fo35_0 : fieldOff Tryd.prog 35 0 = some 0 := by kernel_rfl
theorem fo35_1 : fieldOff Tryd.prog 35 1 = some 1 := by kernel_rfl
theorem zc35 : zeroCs Tryd.prog 35 = some [.int .i64 0, .int .i64 0] := by kernel_rfl
theorem rz36 : rowSz Tryd.prog 36 = some 2 := by kernel_rfl
theorem fo36_0 : fieldOff Tryd.prog 36 0 = some 0 := by kernel_rfl
theorem fo36_1 : fieldOff Tryd.prog 36 1 = some 1 := by kernel_rfl
theorem zc36 : zeroCs Tryd.prog 36 = some [.int .i64 0, .int .i64 0] := by kernel_rfl
theorem sc38 : scalarB Tryd.prog 38 = true := by kernel_rfl
theorem sc39 : scalarB Tryd.prog 39 = true := by kernel_rfl
theorem sc40 : scalarB Tryd.prog 40 = true := by kernel_rfl
theorem rz41 : rowSz Tryd.prog 41 = some 7 := by kernel_rfl
theorem fo41_0 : fieldOff Tryd.prog 41 0 = some 0 := by kernel_rfl
theorem fo41_1 : fieldOff Tryd.prog 41 1 = some 1 := by kernel_rfl
theorem fo41_2 : fieldOff Tryd.prog 41 2 = some 2 := by kernel_rfl
theorem fo41_3 : fieldOff Tryd.prog 41 3 = some 3 := by kernel_rfl
theorem fo41_4 : fieldOff Tryd.prog 41 4 = some 4 := by kernel_rfl
theorem fo41_5 : fieldOff Tryd.prog 41 5 = some 5 := by kernel_rfl
theorem fo41_6 : fieldOff Tryd.prog 41 6 = some 6 := by kernel_rfl
theorem zc41 : zeroCs Tryd.prog 41 = some [.int .i64 0, .int .i64 0, .int .i64 0, .int .i64 0, .int .i64 0, .int .i64 0, .int .i64 0] := by kernel_rfl
theorem rz42 : rowSz Tryd.prog 42 = some 7 := by kernel_rfl
theorem fo42_0 : fieldOff Tryd.prog 42 0 = some 0 := by kernel_rfl
theorem fo42_1 : fieldOff Tryd.prog 42 1 = some 1 := by kernel_rfl
theorem fo42_2 : fieldOff Tryd.prog 42 2 = some 2 := by kernel_rfl
theorem fo42_3 : fieldOff Tryd.prog 42 3 = some 3 := by kernel_rfl
theorem fo42_4 : fieldOff Tryd.prog 42 4 = some 4 := by kernel_rfl
theorem fo42_5 : fieldOff Tryd.prog 42 5 = some 5 := by kernel_rfl
theorem fo42_6 : fieldOff Tryd.prog 42 6 = some 6 := by kernel_rfl
theorem zc42 : zeroCs Tryd.prog 42 = some [.int .i64 0, .int .i64 0, .int .i64 0, .int .i64 0, .int .i64 0, .int .i64 0, .int .i64 0] := by kernel_rfl
theorem sc43 : scalarB Tryd.prog 43 = true := by kernel_rfl
theorem sc44 : scalarB Tryd.prog 44 = true := by kernel_rfl
theorem es44 : elemSz Tryd.prog 44 = some (133, 3) := by kernel_rfl
theorem ap44 : appB Tryd.prog 44 = some (133, 3, 32) := by kernel_rfl
theorem zc44 : zeroCs Tryd.prog 44 = some [.slice none 0 0] := by kernel_rfl
theorem sc45 : scalarB Tryd.prog 45 = true := by kernel_rfl
theorem sc46 : scalarB Tryd.prog 46 = true := by kernel_rfl
theorem sc47 : scalarB Tryd.prog 47 = true := by kernel_rfl
theorem sc48 : scalarB Tryd.prog 48 = true := by kernel_rfl
theorem sc50 : scalarB Tryd.prog 50 = true := by kernel_rfl
theorem sc52 : scalarB Tryd.prog 52 = true := by kernel_rfl
theorem sc53 : scalarB Tryd.prog 53 = true := by kernel_rfl
theorem es53 : elemSz Tryd.prog 53 = some (61, 7) := by kernel_rfl
theorem ap53 : appB Tryd.prog 53 = some (61, 7, 64) := by kernel_rfl
theorem zc53 : zeroCs Tryd.prog 53 = some [.slice none 0 0] := by kernel_rfl
theorem sc54 : scalarB Tryd.prog 54 = true := by kernel_rfl
theorem rz55 : rowSz Tryd.prog 55 = some 2 := by kernel_rfl
theorem fo55_0 : fieldOff Tryd.prog 55 0 = some 0 := by kernel_rfl
theorem fo55_1 : fieldOff Tryd.prog 55 1 = some 1 := by kernel_rfl
theorem zc55 : zeroCs Tryd.prog 55 = some [.int .i64 0, .int .i64 0] := by kernel_rfl
theorem rz56 : rowSz Tryd.prog 56 = some 2 := by kernel_rfl
theorem fo56_0 : fieldOff Tryd.prog 56 0 = some 0 := by kernel_rfl
theorem fo56_1 : fieldOff Tryd.prog 56 1 = some 1 := by kernel_rfl
theorem zc56 : zeroCs Tryd.prog 56 = some [.int .i64 0, .int .i64 0] := by kernel_rfl
theorem sc57 : scalarB Tryd.prog 57 = true := by kernel_rfl
theorem sc58 : scalarB Tryd.prog 58 = true := by kernel_rfl
theorem sc59 : scalarB Tryd.prog 59 = true := by kernel_rfl
theorem rz60 : rowSz Tryd.prog 60 = some 7 := by kernel_rfl
theorem fo60_0 : fieldOff Tryd.prog 60 0 = some 0 := by kernel_rfl
theorem fo60_1 : fieldOff Tryd.prog 60 1 = some 1 := by kernel_rfl
theorem fo60_2 : fieldOff Tryd.prog 60 2 = some 2 := by kernel_rfl
theorem fo60_3 : fieldOff Tryd.prog 60 3 = some 3 := by kernel_rfl
theorem fo60_4 : fieldOff Tryd.prog 60 4 = some 4 := by kernel_rfl
theorem fo60_5 : fieldOff Tryd.prog 60 5 = some 5 := by kernel_rfl
theorem fo60_6 : fieldOff Tryd.prog 60 6 = some 6 := by kernel_rfl
theorem zc60 : zeroCs Tryd.prog 60 = some [.string ⟨#[]⟩, .int .i64 0, .int .i64 0, .int .i64 0, .int .i64 0, .int .i64 0, .int .i64 0] := by kernel_rfl
theorem rz61 : rowSz Tryd.prog 61 = some 7 := by kernel_rfl
theorem fo61_0 : fieldOff Tryd.prog 61 0 = some 0 := by kernel_rfl
theorem fo61_1 : fieldOff Tryd.prog 61 1 = some 1 := by kernel_rfl
theorem fo61_2 : fieldOff Tryd.prog 61 2 = some 2 := by kernel_rfl
theorem fo61_3 : fieldOff Tryd.prog 61 3 = some 3 := by kernel_rfl
theorem fo61_4 : fieldOff Tryd.prog 61 4 = some 4 := by kernel_rfl
theorem fo61_5 : fieldOff Tryd.prog 61 5 = some 5 := by kernel_rfl
theorem fo61_6 : fieldOff Tryd.prog 61 6 = some 6 := by kernel_rfl
theorem zc61 : zeroCs Tryd.prog 61 = some [.string ⟨#[]⟩, .int .i64 0, .int .i64 0, .int .i64 0, .int .i64 0, .int .i64 0, .int .i64 0] := by kernel_rfl
theorem sc63 : scalarB Tryd.prog 63 = true := by kernel_rfl
theorem sc64 : scalarB Tryd.prog 64 = true := by kernel_rfl
theorem sc65 : scalarB Tryd.prog 65 = true := by kernel_rfl
theorem sc66 : scalarB Tryd.prog 66 = true := by kernel_rfl
theorem sc67 : scalarB Tryd.prog 67 = true := by kernel_rfl
theorem sc68 : scalarB Tryd.prog 68 = true := by kernel_rfl
theorem sc69 : scalarB Tryd.prog 69 = true := by kernel_rfl
theorem sc71 : scalarB Tryd.prog 71 = true := by kernel_rfl
theorem sc72 : scalarB Tryd.prog 72 = true := by kernel_rfl
theorem es72 : elemSz Tryd.prog 72 = some (79, 3) := by kernel_rfl
theorem ap72 : appB Tryd.prog 72 = some (79, 3, 24) := by kernel_rfl
theorem zc72 : zeroCs Tryd.prog 72 = some [.slice none 0 0] := by kernel_rfl
theorem sc74 : scalarB Tryd.prog 74 = true := by kernel_rfl
theorem sc76 : scalarB Tryd.prog 76 = true := by kernel_rfl
theorem sc77 : scalarB Tryd.prog 77 = true := by kernel_rfl
theorem rz78 : rowSz Tryd.prog 78 = some 3 := by kernel_rfl
theorem fo78_0 : fieldOff Tryd.prog 78 0 = some 0 := by kernel_rfl
theorem fo78_1 : fieldOff Tryd.prog 78 1 = some 1 := by kernel_rfl
theorem fo78_2 : fieldOff Tryd.prog 78 2 = some 2 := by kernel_rfl
theorem zc78 : zeroCs Tryd.prog 78 = some [.int .i64 0, .int .i64 0, .int .i64 0] := by kernel_rfl
theorem rz79 : rowSz Tryd.prog 79 = some 3 := by kernel_rfl
theorem fo79_0 : fieldOff Tryd.prog 79 0 = some 0 := by kernel_rfl
theorem fo79_1 : fieldOff Tryd.prog 79 1 = some 1 := by kernel_rfl
theorem fo79_2 : fieldOff Tryd.prog 79 2 = some 2 := by kernel_rfl
theorem zc79 : zeroCs Tryd.prog 79 = some [.int .i64 0, .int .i64 0, .int .i64 0] := by kernel_rfl
theorem sc80 : scalarB Tryd.prog 80 = true := by kernel_rfl
theorem sc81 : scalarB Tryd.prog 81 = true := by kernel_rfl
theorem sc82 : scalarB Tryd.prog 82 = true := by kernel_rfl
theorem sc83 : scalarB Tryd.prog 83 = true := by kernel_rfl
theorem sc84 : scalarB Tryd.prog 84 = true := by kernel_rfl
theorem es84 : elemSz Tryd.prog 84 = some (95, 5) := by kernel_rfl
theorem ap84 : appB Tryd.prog 84 = some (95, 5, 72) := by kernel_rfl
theorem zc84 : zeroCs Tryd.prog 84 = some [.slice none 0 0] := by kernel_rfl
theorem sc85 : scalarB Tryd.prog 85 = true := by kernel_rfl
theorem sc86 : scalarB Tryd.prog 86 = true := by kernel_rfl
theorem sc87 : scalarB Tryd.prog 87 = true := by kernel_rfl
theorem es87 : elemSz Tryd.prog 87 = some (91, 4) := by kernel_rfl
theorem ap87 : appB Tryd.prog 87 = some (91, 4, 48) := by kernel_rfl
theorem zc87 : zeroCs Tryd.prog 87 = some [.slice none 0 0] := by kernel_rfl
theorem sc89 : scalarB Tryd.prog 89 = true := by kernel_rfl
theorem rz90 : rowSz Tryd.prog 90 = some 4 := by kernel_rfl
theorem fo90_0 : fieldOff Tryd.prog 90 0 = some 0 := by kernel_rfl
theorem fo90_1 : fieldOff Tryd.prog 90 1 = some 1 := by kernel_rfl
theorem fo90_2 : fieldOff Tryd.prog 90 2 = some 2 := by kernel_rfl
theorem fo90_3 : fieldOff Tryd.prog 90 3 = some 3 := by kernel_rfl
theorem zc90 : zeroCs Tryd.prog 90 = some [.string ⟨#[]⟩, .string ⟨#[]⟩, .int .i64 0, .int .i64 0] := by kernel_rfl
theorem rz91 : rowSz Tryd.prog 91 = some 4 := by kernel_rfl
theorem fo91_0 : fieldOff Tryd.prog 91 0 = some 0 := by kernel_rfl
theorem fo91_1 : fieldOff Tryd.prog 91 1 = some 1 := by kernel_rfl
theorem fo91_2 : fieldOff Tryd.prog 91 2 = some 2 := by kernel_rfl
theorem fo91_3 : fieldOff Tryd.prog 91 3 = some 3 := by kernel_rfl
theorem zc91 : zeroCs Tryd.prog 91 = some [.string ⟨#[]⟩, .string ⟨#[]⟩, .int .i64 0, .int .i64 0] := by kernel_rfl
theorem sc92 : scalarB Tryd.prog 92 = true := by kernel_rfl
theorem sc93 : scalarB Tryd.prog 93 = true := by kernel_rfl
theorem es93 : elemSz Tryd.prog 93 = some (100, 9) := by kernel_rfl
theorem ap93 : appB Tryd.prog 93 = some (100, 9, 96) := by kernel_rfl
theorem zc93 : zeroCs Tryd.prog 93 = some [.slice none 0 0] := by kernel_rfl
theorem rz94 : rowSz Tryd.prog 94 = some 5 := by kernel_rfl
theorem fo94_0 : fieldOff Tryd.prog 94 0 = some 0 := by kernel_rfl
theorem fo94_1 : fieldOff Tryd.prog 94 1 = some 1 := by kernel_rfl
theorem fo94_2 : fieldOff Tryd.prog 94 2 = some 2 := by kernel_rfl
theorem fo94_3 : fieldOff Tryd.prog 94 3 = some 4 := by kernel_rfl
theorem zc94 : zeroCs Tryd.prog 94 = some [.string ⟨#[]⟩, .string ⟨#[]⟩, .int .i64 0, .int .i64 0, .slice none 0 0] := by kernel_rfl
theorem rz95 : rowSz Tryd.prog 95 = some 5 := by kernel_rfl
theorem fo95_0 : fieldOff Tryd.prog 95 0 = some 0 := by kernel_rfl
theorem fo95_1 : fieldOff Tryd.prog 95 1 = some 1 := by kernel_rfl
theorem fo95_2 : fieldOff Tryd.prog 95 2 = some 2 := by kernel_rfl
theorem fo95_3 : fieldOff Tryd.prog 95 3 = some 4 := by kernel_rfl
theorem zc95 : zeroCs Tryd.prog 95 = some [.string ⟨#[]⟩, .string ⟨#[]⟩, .int .i64 0, .int .i64 0, .slice none 0 0] := by kernel_rfl
theorem sc96 : scalarB Tryd.prog 96 = true := by kernel_rfl
theorem rz97 : rowSz Tryd.prog 97 = some 4 := by kernel_rfl
theorem fo97_0 : fieldOff Tryd.prog 97 0 = some 0 := by kernel_rfl
theorem fo97_1 : fieldOff Tryd.prog 97 1 = some 1 := by kernel_rfl
theorem fo97_2 : fieldOff Tryd.prog 97 2 = some 2 := by kernel_rfl
theorem fo97_3 : fieldOff Tryd.prog 97 3 = some 3 := by kernel_rfl
theorem zc97 : zeroCs Tryd.prog 97 = some [.int .i64 0, .string ⟨#[]⟩, .int .i64 0, .int .i64 0] := by kernel_rfl
theorem rz98 : rowSz Tryd.prog 98 = some 4 := by kernel_rfl
theorem fo98_0 : fieldOff Tryd.prog 98 0 = some 0 := by kernel_rfl
theorem fo98_1 : fieldOff Tryd.prog 98 1 = some 1 := by kernel_rfl
theorem fo98_2 : fieldOff Tryd.prog 98 2 = some 2 := by kernel_rfl
theorem fo98_3 : fieldOff Tryd.prog 98 3 = some 3 := by kernel_rfl
theorem zc98 : zeroCs Tryd.prog 98 = some [.int .i64 0, .string ⟨#[]⟩, .int .i64 0, .int .i64 0] := by kernel_rfl
theorem rz99 : rowSz Tryd.prog 99 = some 9 := by kernel_rfl
theorem fo99_0 : fieldOff Tryd.prog 99 0 = some 0 := by kernel_rfl
theorem fo99_1 : fieldOff Tryd.prog 99 1 = some 1 := by kernel_rfl
theorem fo99_2 : fieldOff Tryd.prog 99 2 = some 5 := by kernel_rfl
theorem zc99 : zeroCs Tryd.prog 99 = some [.string ⟨#[]⟩, .int .i64 0, .string ⟨#[]⟩, .int .i64 0, .int .i64 0, .int .i64 0, .string ⟨#[]⟩, .int .i64 0, .int .i64 0] := by kernel_rfl
theorem rz100 : rowSz Tryd.prog 100 = some 9 := by kernel_rfl
theorem fo100_0 : fieldOff Tryd.prog 100 0 = some 0 := by kernel_rfl
theorem fo100_1 : fieldOff Tryd.prog 100 1 = some 1 := by kernel_rfl
theorem fo100_2 : fieldOff Tryd.prog 100 2 = some 5 := by kernel_rfl
theorem zc100 : zeroCs Tryd.prog 100 = some [.string ⟨#[]⟩, .int .i64 0, .string ⟨#[]⟩, .int .i64 0, .int .i64 0, .int .i64 0, .string ⟨#[]⟩, .int .i64 0, .int .i64 0] := by kernel_rfl
theorem sc102 : scalarB Tryd.prog 102 = true := by kernel_rfl
theorem sc103 : scalarB Tryd.prog 103 = true := by kernel_rfl
theorem es103 : elemSz Tryd.prog 103 = some (188, 6) := by kernel_rfl
theorem ap103 : appB Tryd.prog 103 = some (188, 6, 64) := by kernel_rfl
theorem zc103 : zeroCs Tryd.prog 103 = some [.slice none 0 0] := by kernel_rfl
theorem sc104 : scalarB Tryd.prog 104 = true := by kernel_rfl
theorem sc105 : scalarB Tryd.prog 105 = true := by kernel_rfl
theorem es105 : elemSz Tryd.prog 105 = some (9, 1) := by kernel_rfl
theorem ap105 : appB Tryd.prog 105 = some (9, 1, 16) := by kernel_rfl
theorem zc105 : zeroCs Tryd.prog 105 = some [.slice none 0 0] := by kernel_rfl
theorem sc106 : scalarB Tryd.prog 106 = true := by kernel_rfl
theorem sc108 : scalarB Tryd.prog 108 = true := by kernel_rfl
theorem sc109 : scalarB Tryd.prog 109 = true := by kernel_rfl
theorem sc110 : scalarB Tryd.prog 110 = true := by kernel_rfl
theorem sc112 : scalarB Tryd.prog 112 = true := by kernel_rfl
theorem sc113 : scalarB Tryd.prog 113 = true := by kernel_rfl
theorem es113 : elemSz Tryd.prog 113 = some (197, 4) := by kernel_rfl
theorem ap113 : appB Tryd.prog 113 = some (197, 4, 40) := by kernel_rfl
theorem zc113 : zeroCs Tryd.prog 113 = some [.slice none 0 0] := by kernel_rfl
theorem sc114 : scalarB Tryd.prog 114 = true := by kernel_rfl
theorem sc115 : scalarB Tryd.prog 115 = true := by kernel_rfl
theorem sc116 : scalarB Tryd.prog 116 = true := by kernel_rfl
theorem es116 : elemSz Tryd.prog 116 = some (201, 3) := by kernel_rfl
theorem ap116 : appB Tryd.prog 116 = some (201, 3, 40) := by kernel_rfl
theorem zc116 : zeroCs Tryd.prog 116 = some [.slice none 0 0] := by kernel_rfl
theorem sc117 : scalarB Tryd.prog 117 = true := by kernel_rfl
theorem sc118 : scalarB Tryd.prog 118 = true := by kernel_rfl
theorem sc119 : scalarB Tryd.prog 119 = true := by kernel_rfl
theorem sc120 : scalarB Tryd.prog 120 = true := by kernel_rfl
theorem sc121 : scalarB Tryd.prog 121 = true := by kernel_rfl
theorem sc123 : scalarB Tryd.prog 123 = true := by kernel_rfl
theorem sc124 : scalarB Tryd.prog 124 = true := by kernel_rfl
theorem sc125 : scalarB Tryd.prog 125 = true := by kernel_rfl
theorem es125 : elemSz Tryd.prog 125 = some (205, 4) := by kernel_rfl
theorem ap125 : appB Tryd.prog 125 = some (205, 4, 56) := by kernel_rfl
theorem zc125 : zeroCs Tryd.prog 125 = some [.slice none 0 0] := by kernel_rfl
theorem sc126 : scalarB Tryd.prog 126 = true := by kernel_rfl
theorem sc128 : scalarB Tryd.prog 128 = true := by kernel_rfl
theorem sc129 : scalarB Tryd.prog 129 = true := by kernel_rfl
theorem sc130 : scalarB Tryd.prog 130 = true := by kernel_rfl
theorem sc131 : scalarB Tryd.prog 131 = true := by kernel_rfl
theorem rz132 : rowSz Tryd.prog 132 = some 3 := by kernel_rfl
theorem fo132_0 : fieldOff Tryd.prog 132 0 = some 0 := by kernel_rfl
theorem fo132_1 : fieldOff Tryd.prog 132 1 = some 1 := by kernel_rfl
theorem fo132_2 : fieldOff Tryd.prog 132 2 = some 2 := by kernel_rfl
theorem zc132 : zeroCs Tryd.prog 132 = some [.int .i64 0, .string ⟨#[]⟩, .int .i64 0] := by kernel_rfl
theorem rz133 : rowSz Tryd.prog 133 = some 3 := by kernel_rfl
theorem fo133_0 : fieldOff Tryd.prog 133 0 = some 0 := by kernel_rfl
theorem fo133_1 : fieldOff Tryd.prog 133 1 = some 1 := by kernel_rfl
theorem fo133_2 : fieldOff Tryd.prog 133 2 = some 2 := by kernel_rfl
theorem zc133 : zeroCs Tryd.prog 133 = some [.int .i64 0, .string ⟨#[]⟩, .int .i64 0] := by kernel_rfl
theorem sc134 : scalarB Tryd.prog 134 = true := by kernel_rfl
theorem sc135 : scalarB Tryd.prog 135 = true := by kernel_rfl
theorem sc136 : scalarB Tryd.prog 136 = true := by kernel_rfl
theorem rz137 : rowSz Tryd.prog 137 = some 6 := by kernel_rfl
theorem fo137_0 : fieldOff Tryd.prog 137 0 = some 0 := by kernel_rfl
theorem fo137_1 : fieldOff Tryd.prog 137 1 = some 1 := by kernel_rfl
theorem fo137_2 : fieldOff Tryd.prog 137 2 = some 2 := by kernel_rfl
theorem fo137_3 : fieldOff Tryd.prog 137 3 = some 4 := by kernel_rfl
theorem fo137_4 : fieldOff Tryd.prog 137 4 = some 5 := by kernel_rfl
theorem zc137 : zeroCs Tryd.prog 137 = some [.string ⟨#[]⟩, .string ⟨#[]⟩, .int .i64 0, .int .i64 0, .int .i64 0, .int .i64 0] := by kernel_rfl
theorem rz138 : rowSz Tryd.prog 138 = some 6 := by kernel_rfl
theorem fo138_0 : fieldOff Tryd.prog 138 0 = some 0 := by kernel_rfl
theorem fo138_1 : fieldOff Tryd.prog 138 1 = some 1 := by kernel_rfl
theorem fo138_2 : fieldOff Tryd.prog 138 2 = some 2 := by kernel_rfl
theorem fo138_3 : fieldOff Tryd.prog 138 3 = some 4 := by kernel_rfl
theorem fo138_4 : fieldOff Tryd.prog 138 4 = some 5 := by kernel_rfl
theorem zc138 : zeroCs Tryd.prog 138 = some [.string ⟨#[]⟩, .string ⟨#[]⟩, .int .i64 0, .int .i64 0, .int .i64 0, .int .i64 0] := by kernel_rfl
theorem sc139 : scalarB Tryd.prog 139 = true := by kernel_rfl
theorem sc140 : scalarB Tryd.prog 140 = true := by kernel_rfl
theorem sc141 : scalarB Tryd.prog 141 = true := by kernel_rfl
theorem sc142 : scalarB Tryd.prog 142 = true := by kernel_rfl
theorem sc143 : scalarB Tryd.prog 143 = true := by kernel_rfl
theorem sc145 : scalarB Tryd.prog 145 = true := by kernel_rfl
theorem rz146 : rowSz Tryd.prog 146 = some 14 := by kernel_rfl
theorem zc146 : zeroCs Tryd.prog 146 = some [.int .i64 0, .int .i64 0, .int .i64 0, .int .i64 0, .int .i64 0, .int .i64 0, .int .i64 0, .int .i64 0, .int .i64 0, .int .i64 0, .int .i64 0, .int .i64 0, .int .i64 0, .int .i64 0] := by kernel_rfl
theorem rz147 : rowSz Tryd.prog 147 = some 15 := by kernel_rfl
theorem fo147_0 : fieldOff Tryd.prog 147 0 = some 0 := by kernel_rfl
theorem fo147_1 : fieldOff Tryd.prog 147 1 = some 1 := by kernel_rfl
theorem zc147 : zeroCs Tryd.prog 147 = some [.string ⟨#[]⟩, .int .i64 0, .int .i64 0, .int .i64 0, .int .i64 0, .int .i64 0, .int .i64 0, .int .i64 0, .int .i64 0, .int .i64 0, .int .i64 0, .int .i64 0, .int .i64 0, .int .i64 0, .int .i64 0] := by kernel_rfl
theorem rz148 : rowSz Tryd.prog 148 = some 15 := by kernel_rfl
theorem fo148_0 : fieldOff Tryd.prog 148 0 = some 0 := by kernel_rfl
theorem fo148_1 : fieldOff Tryd.prog 148 1 = some 1 := by kernel_rfl
theorem zc148 : zeroCs Tryd.prog 148 = some [.string ⟨#[]⟩, .int .i64 0, .int .i64 0, .int .i64 0, .int .i64 0, .int .i64 0, .int .i64 0, .int .i64 0, .int .i64 0, .int .i64 0, .int .i64 0, .int .i64 0, .int .i64 0, .int .i64 0, .int .i64 0] := by kernel_rfl
theorem sc150 : scalarB Tryd.prog 150 = true := by kernel_rfl
theorem sc152 : scalarB Tryd.prog 152 = true := by kernel_rfl
theorem sc153 : scalarB Tryd.prog 153 = true := by kernel_rfl
theorem sc155 : scalarB Tryd.prog 155 = true := by kernel_rfl
theorem sc156 : scalarB Tryd.prog 156 = true := by kernel_rfl
theorem sc157 : scalarB Tryd.prog 157 = true := by kernel_rfl
theorem sc158 : scalarB Tryd.prog 158 = true := by kernel_rfl
theorem sc159 : scalarB Tryd.prog 159 = true := by kernel_rfl
theorem sc160 : scalarB Tryd.prog 160 = true := by kernel_rfl
theorem es160 : elemSz Tryd.prog 160 = some (29, 1) := by kernel_rfl
theorem ap160 : appB Tryd.prog 160 = some (29, 1, 8) := by kernel_rfl
theorem zc160 : zeroCs Tryd.prog 160 = some [.slice none 0 0] := by kernel_rfl
theorem sc161 : scalarB Tryd.prog 161 = true := by kernel_rfl
theorem sc162 : scalarB Tryd.prog 162 = true := by kernel_rfl
theorem es162 : elemSz Tryd.prog 162 = some (168, 6) := by kernel_rfl
theorem ap162 : appB Tryd.prog 162 = some (168, 6, 48) := by kernel_rfl
theorem zc162 : zeroCs Tryd.prog 162 = some [.slice none 0 0] := by kernel_rfl
theorem rz163 : rowSz Tryd.prog 163 = some 4 := by kernel_rfl
theorem fo163_0 : fieldOff Tryd.prog 163 0 = some 0 := by kernel_rfl
theorem fo163_1 : fieldOff Tryd.prog 163 1 = some 1 := by kernel_rfl
theorem fo163_2 : fieldOff Tryd.prog 163 2 = some 3 := by kernel_rfl
theorem zc163 : zeroCs Tryd.prog 163 = some [.slice none 0 0, .int .i64 0, .int .i64 0, .slice none 0 0] := by kernel_rfl
theorem rz164 : rowSz Tryd.prog 164 = some 4 := by kernel_rfl
theorem fo164_0 : fieldOff Tryd.prog 164 0 = some 0 := by kernel_rfl
theorem fo164_1 : fieldOff Tryd.prog 164 1 = some 1 := by kernel_rfl
theorem fo164_2 : fieldOff Tryd.prog 164 2 = some 3 := by kernel_rfl
theorem zc164 : zeroCs Tryd.prog 164 = some [.slice none 0 0, .int .i64 0, .int .i64 0, .slice none 0 0] := by kernel_rfl
theorem sc165 : scalarB Tryd.prog 165 = true := by kernel_rfl
theorem sc166 : scalarB Tryd.prog 166 = true := by kernel_rfl
theorem rz167 : rowSz Tryd.prog 167 = some 6 := by kernel_rfl
theorem fo167_0 : fieldOff Tryd.prog 167 0 = some 0 := by kernel_rfl
theorem fo167_1 : fieldOff Tryd.prog 167 1 = some 1 := by kernel_rfl
theorem fo167_2 : fieldOff Tryd.prog 167 2 = some 2 := by kernel_rfl
theorem fo167_3 : fieldOff Tryd.prog 167 3 = some 5 := by kernel_rfl
theorem zc167 : zeroCs Tryd.prog 167 = some [.int .i64 0, .int .i64 0, .int .i64 0, .int .i64 0, .int .i64 0, .bool false] := by kernel_rfl
theorem rz168 : rowSz Tryd.prog 168 = some 6 := by kernel_rfl
theorem fo168_0 : fieldOff Tryd.prog 168 0 = some 0 := by kernel_rfl
theorem fo168_1 : fieldOff Tryd.prog 168 1 = some 1 := by kernel_rfl
theorem fo168_2 : fieldOff Tryd.prog 168 2 = some 2 := by kernel_rfl
theorem fo168_3 : fieldOff Tryd.prog 168 3 = some 5 := by kernel_rfl
theorem zc168 : zeroCs Tryd.prog 168 = some [.int .i64 0, .int .i64 0, .int .i64 0, .int .i64 0, .int .i64 0, .bool false] := by kernel_rfl
theorem rz169 : rowSz Tryd.prog 169 = some 5 := by kernel_rfl
theorem fo169_0 : fieldOff Tryd.prog 169 0 = some 0 := by kernel_rfl
theorem fo169_1 : fieldOff Tryd.prog 169 1 = some 1 := by kernel_rfl
theorem fo169_2 : fieldOff Tryd.prog 169 2 = some 2 := by kernel_rfl
theorem fo169_3 : fieldOff Tryd.prog 169 3 = some 4 := by kernel_rfl
theorem zc169 : zeroCs Tryd.prog 169 = some [.slice none 0 0, .string ⟨#[]⟩, .int .i64 0, .int .i64 0, .int .i64 0] := by kernel_rfl
theorem rz170 : rowSz Tryd.prog 170 = some 5 := by kernel_rfl
theorem fo170_0 : fieldOff Tryd.prog 170 0 = some 0 := by kernel_rfl
theorem fo170_1 : fieldOff Tryd.prog 170 1 = some 1 := by kernel_rfl
theorem fo170_2 : fieldOff Tryd.prog 170 2 = some 2 := by kernel_rfl
theorem fo170_3 : fieldOff Tryd.prog 170 3 = some 4 := by kernel_rfl
theorem zc170 : zeroCs Tryd.prog 170 = some [.slice none 0 0, .string ⟨#[]⟩, .int .i64 0, .int .i64 0, .int .i64 0] := by kernel_rfl
theorem sc171 : scalarB Tryd.prog 171 = true := by kernel_rfl
theorem es171 : elemSz Tryd.prog 171 = some (172, 1) := by kernel_rfl
theorem ap171 : appB Tryd.prog 171 = some (172, 1, 8) := by kernel_rfl
theorem zc171 : zeroCs Tryd.prog 171 = some [.slice none 0 0] := by kernel_rfl
theorem sc172 : scalarB Tryd.prog 172 = true := by kernel_rfl
theorem rz173 : rowSz Tryd.prog 173 = some 2 := by kernel_rfl
theorem fo173_0 : fieldOff Tryd.prog 173 0 = some 0 := by kernel_rfl
theorem fo173_1 : fieldOff Tryd.prog 173 1 = some 1 := by kernel_rfl
theorem zc173 : zeroCs Tryd.prog 173 = some [.int .i64 0, .slice none 0 0] := by kernel_rfl
theorem rz174 : rowSz Tryd.prog 174 = some 2 := by kernel_rfl
theorem fo174_0 : fieldOff Tryd.prog 174 0 = some 0 := by kernel_rfl
theorem fo174_1 : fieldOff Tryd.prog 174 1 = some 1 := by kernel_rfl
theorem zc174 : zeroCs Tryd.prog 174 = some [.int .i64 0, .slice none 0 0] := by kernel_rfl
theorem sc175 : scalarB Tryd.prog 175 = true := by kernel_rfl
theorem sc176 : scalarB Tryd.prog 176 = true := by kernel_rfl
theorem sc177 : scalarB Tryd.prog 177 = true := by kernel_rfl
theorem sc178 : scalarB Tryd.prog 178 = true := by kernel_rfl
theorem sc179 : scalarB Tryd.prog 179 = true := by kernel_rfl
theorem sc180 : scalarB Tryd.prog 180 = true := by kernel_rfl
theorem sc181 : scalarB Tryd.prog 181 = true := by kernel_rfl
theorem sc182 : scalarB Tryd.prog 182 = true := by kernel_rfl
theorem sc183 : scalarB Tryd.prog 183 = true := by kernel_rfl
theorem sc184 : scalarB Tryd.prog 184 = true := by kernel_rfl
theorem sc185 : scalarB Tryd.prog 185 = true := by kernel_rfl
theorem sc186 : scalarB Tryd.prog 186 = true := by kernel_rfl
theorem rz187 : rowSz Tryd.prog 187 = some 6 := by kernel_rfl
theorem fo187_0 : fieldOff Tryd.prog 187 0 = some 0 := by kernel_rfl
theorem fo187_1 : fieldOff Tryd.prog 187 1 = some 1 := by kernel_rfl
theorem fo187_2 : fieldOff Tryd.prog 187 2 = some 2 := by kernel_rfl
theorem fo187_3 : fieldOff Tryd.prog 187 3 = some 3 := by kernel_rfl
theorem fo187_4 : fieldOff Tryd.prog 187 4 = some 4 := by kernel_rfl
theorem fo187_5 : fieldOff Tryd.prog 187 5 = some 5 := by kernel_rfl
theorem zc187 : zeroCs Tryd.prog 187 = some [.string ⟨#[]⟩, .string ⟨#[]⟩, .int .i64 0, .int .i64 0, .int .i64 0, .int .i64 0] := by kernel_rfl
theorem rz188 : rowSz Tryd.prog 188 = some 6 := by kernel_rfl
theorem fo188_0 : fieldOff Tryd.prog 188 0 = some 0 := by kernel_rfl
theorem fo188_1 : fieldOff Tryd.prog 188 1 = some 1 := by kernel_rfl
theorem fo188_2 : fieldOff Tryd.prog 188 2 = some 2 := by kernel_rfl
theorem fo188_3 : fieldOff Tryd.prog 188 3 = some 3 := by kernel_rfl
theorem fo188_4 : fieldOff Tryd.prog 188 4 = some 4 := by kernel_rfl
theorem fo188_5 : fieldOff Tryd.prog 188 5 = some 5 := by kernel_rfl
theorem zc188 : zeroCs Tryd.prog 188 = some [.string ⟨#[]⟩, .string ⟨#[]⟩, .int .i64 0, .int .i64 0, .int .i64 0, .int .i64 0] := by kernel_rfl
theorem sc189 : scalarB Tryd.prog 189 = true := by kernel_rfl
theorem sc190 : scalarB Tryd.prog 190 = true := by kernel_rfl
theorem es190 : elemSz Tryd.prog 190 = some (105, 1) := by kernel_rfl
theorem ap190 : appB Tryd.prog 190 = some (105, 1, 24) := by kernel_rfl
theorem zc190 : zeroCs Tryd.prog 190 = some [.slice none 0 0] := by kernel_rfl
theorem sc191 : scalarB Tryd.prog 191 = true := by kernel_rfl
theorem sc192 : scalarB Tryd.prog 192 = true := by kernel_rfl
theorem sc193 : scalarB Tryd.prog 193 = true := by kernel_rfl
theorem sc194 : scalarB Tryd.prog 194 = true := by kernel_rfl
theorem sc195 : scalarB Tryd.prog 195 = true := by kernel_rfl
theorem rz196 : rowSz Tryd.prog 196 = some 4 := by kernel_rfl
theorem fo196_0 : fieldOff Tryd.prog 196 0 = some 0 := by kernel_rfl
theorem fo196_1 : fieldOff Tryd.prog 196 1 = some 1 := by kernel_rfl
theorem fo196_2 : fieldOff Tryd.prog 196 2 = some 2 := by kernel_rfl
theorem fo196_3 : fieldOff Tryd.prog 196 3 = some 3 := by kernel_rfl
theorem zc196 : zeroCs Tryd.prog 196 = some [.string ⟨#[]⟩, .int .i64 0, .int .i64 0, .int .i64 0] := by kernel_rfl
theorem rz197 : rowSz Tryd.prog 197 = some 4 := by kernel_rfl
theorem fo197_0 : fieldOff Tryd.prog 197 0 = some 0 := by kernel_rfl
theorem fo197_1 : fieldOff Tryd.prog 197 1 = some 1 := by kernel_rfl
theorem fo197_2 : fieldOff Tryd.prog 197 2 = some 2 := by kernel_rfl
theorem fo197_3 : fieldOff Tryd.prog 197 3 = some 3 := by kernel_rfl
theorem zc197 : zeroCs Tryd.prog 197 = some [.string ⟨#[]⟩, .int .i64 0, .int .i64 0, .int .i64 0] := by kernel_rfl
theorem rz198 : rowSz Tryd.prog 198 = some 2 := by kernel_rfl
theorem zc198 : zeroCs Tryd.prog 198 = some [.string ⟨#[]⟩, .string ⟨#[]⟩] := by kernel_rfl
theorem sc199 : scalarB Tryd.prog 199 = true := by kernel_rfl
theorem es199 : elemSz Tryd.prog 199 = some (198, 2) := by kernel_rfl
theorem ap199 : appB Tryd.prog 199 = some (198, 2, 32) := by kernel_rfl
theorem zc199 : zeroCs Tryd.prog 199 = some [.slice none 0 0] := by kernel_rfl
theorem rz200 : rowSz Tryd.prog 200 = some 3 := by kernel_rfl
theorem fo200_0 : fieldOff Tryd.prog 200 0 = some 0 := by kernel_rfl
theorem fo200_1 : fieldOff Tryd.prog 200 1 = some 1 := by kernel_rfl
theorem fo200_2 : fieldOff Tryd.prog 200 2 = some 2 := by kernel_rfl
theorem zc200 : zeroCs Tryd.prog 200 = some [.string ⟨#[]⟩, .string ⟨#[]⟩, .int .i64 0] := by kernel_rfl
theorem rz201 : rowSz Tryd.prog 201 = some 3 := by kernel_rfl
theorem fo201_0 : fieldOff Tryd.prog 201 0 = some 0 := by kernel_rfl
theorem fo201_1 : fieldOff Tryd.prog 201 1 = some 1 := by kernel_rfl
theorem fo201_2 : fieldOff Tryd.prog 201 2 = some 2 := by kernel_rfl
theorem zc201 : zeroCs Tryd.prog 201 = some [.string ⟨#[]⟩, .string ⟨#[]⟩, .int .i64 0] := by kernel_rfl
theorem sc202 : scalarB Tryd.prog 202 = true := by kernel_rfl
theorem sc203 : scalarB Tryd.prog 203 = true := by kernel_rfl
theorem rz204 : rowSz Tryd.prog 204 = some 4 := by kernel_rfl
theorem fo204_0 : fieldOff Tryd.prog 204 0 = some 0 := by kernel_rfl
theorem fo204_1 : fieldOff Tryd.prog 204 1 = some 1 := by kernel_rfl
theorem fo204_2 : fieldOff Tryd.prog 204 2 = some 2 := by kernel_rfl
theorem fo204_3 : fieldOff Tryd.prog 204 3 = some 3 := by kernel_rfl
theorem zc204 : zeroCs Tryd.prog 204 = some [.string ⟨#[]⟩, .int .i64 0, .slice none 0 0, .bool false] := by kernel_rfl
theorem rz205 : rowSz Tryd.prog 205 = some 4 := by kernel_rfl
theorem fo205_0 : fieldOff Tryd.prog 205 0 = some 0 := by kernel_rfl
theorem fo205_1 : fieldOff Tryd.prog 205 1 = some 1 := by kernel_rfl
theorem fo205_2 : fieldOff Tryd.prog 205 2 = some 2 := by kernel_rfl
theorem fo205_3 : fieldOff Tryd.prog 205 3 = some 3 := by kernel_rfl
theorem zc205 : zeroCs Tryd.prog 205 = some [.string ⟨#[]⟩, .int .i64 0, .slice none 0 0, .bool false] := by kernel_rfl
theorem sc206 : scalarB Tryd.prog 206 = true := by kernel_rfl
theorem sc207 : scalarB Tryd.prog 207 = true := by kernel_rfl
theorem sc208 : scalarB Tryd.prog 208 = true := by kernel_rfl
theorem sc209 : scalarB Tryd.prog 209 = true := by kernel_rfl
theorem sc210 : scalarB Tryd.prog 210 = true := by kernel_rfl
theorem sc211 : scalarB Tryd.prog 211 = true := by kernel_rfl
theorem sc212 : scalarB Tryd.prog 212 = true := by kernel_rfl
theorem sc213 : scalarB Tryd.prog 213 = true := by kernel_rfl
theorem sc214 : scalarB Tryd.prog 214 = true := by kernel_rfl
theorem sc215 : scalarB Tryd.prog 215 = true := by kernel_rfl
theorem sc216 : scalarB Tryd.prog 216 = true := by kernel_rfl
theorem sc217 : scalarB Tryd.prog 217 = true := by kernel_rfl
theorem sc218 : scalarB Tryd.prog 218 = true := by kernel_rfl
theorem sc219 : scalarB Tryd.prog 219 = true := by kernel_rfl
theorem sc220 : scalarB Tryd.prog 220 = true := by kernel_rfl
theorem sc221 : scalarB Tryd.prog 221 = true := by kernel_rfl
theorem sc222 : scalarB Tryd.prog 222 = true := by kernel_rfl
theorem sc223 : scalarB Tryd.prog 223 = true := by kernel_rfl
theorem sc224 : scalarB Tryd.prog 224 = true := by kernel_rfl
theorem sc225 : scalarB Tryd.prog 225 = true := by kernel_rfl
theorem sc226 : scalarB Tryd.prog 226 = true := by kernel_rfl
theorem sc227 : scalarB Tryd.prog 227 = true := by kernel_rfl
theorem sc228 : scalarB Tryd.prog 228 = true := by kernel_rfl
theorem sc229 : scalarB Tryd.prog 229 = true := by kernel_rfl
theorem sc230 : scalarB Tryd.prog 230 = true := by kernel_rfl
theorem sc231 : scalarB Tryd.prog 231 = true := by kernel_rfl
theorem sc232 : scalarB Tryd.prog 232 = true := by kernel_rfl
theorem sc233 : scalarB Tryd.prog 233 = true := by kernel_rfl
theorem sc234 : scalarB Tryd.prog 234 = true := by kernel_rfl
theorem es234 : elemSz Tryd.prog 234 = some (148, 15) := by kernel_rfl
theorem ap234 : appB Tryd.prog 234 = some (148, 15, 128) := by kernel_rfl
theorem zc234 : zeroCs Tryd.prog 234 = some [.slice none 0 0] := by kernel_rfl
theorem sc235 : scalarB Tryd.prog 235 = true := by kernel_rfl
theorem sc236 : scalarB Tryd.prog 236 = true := by kernel_rfl
theorem sc237 : scalarB Tryd.prog 237 = true := by kernel_rfl
theorem sc238 : scalarB Tryd.prog 238 = true := by kernel_rfl
theorem sc239 : scalarB Tryd.prog 239 = true := by kernel_rfl
theorem rz240 : rowSz Tryd.prog 240 = some 256 := by kernel_rfl
theorem sc243 : scalarB Tryd.prog 243 = true := by kernel_rfl
theorem sc244 : scalarB Tryd.prog 244 = true := by kernel_rfl
theorem sc245 : scalarB Tryd.prog 245 = true := by kernel_rfl
theorem sc246 : scalarB Tryd.prog 246 = true := by kernel_rfl
theorem sc248 : scalarB Tryd.prog 248 = true := by kernel_rfl
theorem sc249 : scalarB Tryd.prog 249 = true := by kernel_rfl
theorem sc250 : scalarB Tryd.prog 250 = true := by kernel_rfl
theorem rz251 : rowSz Tryd.prog 251 = some 256 := by kernel_rfl
theorem sc252 : scalarB Tryd.prog 252 = true := by kernel_rfl
theorem zc252 : zeroCs Tryd.prog 252 = some [.int .u64 0] := by kernel_rfl
theorem rz253 : rowSz Tryd.prog 253 = some 2 := by kernel_rfl
theorem fo253_0 : fieldOff Tryd.prog 253 0 = some 0 := by kernel_rfl
theorem fo253_1 : fieldOff Tryd.prog 253 1 = some 1 := by kernel_rfl
theorem zc253 : zeroCs Tryd.prog 253 = some [.int .u8 0, .int .u8 0] := by kernel_rfl
theorem rz255 : rowSz Tryd.prog 255 = some 32 := by kernel_rfl
theorem zc255 : zeroCs Tryd.prog 255 = some [.int .u8 0, .int .u8 0, .int .u8 0, .int .u8 0, .int .u8 0, .int .u8 0, .int .u8 0, .int .u8 0, .int .u8 0, .int .u8 0, .int .u8 0, .int .u8 0, .int .u8 0, .int .u8 0, .int .u8 0, .int .u8 0, .int .u8 0, .int .u8 0, .int .u8 0, .int .u8 0, .int .u8 0, .int .u8 0, .int .u8 0, .int .u8 0, .int .u8 0, .int .u8 0, .int .u8 0, .int .u8 0, .int .u8 0, .int .u8 0, .int .u8 0, .int .u8 0] := by kernel_rfl
theorem sc256 : scalarB Tryd.prog 256 = true := by kernel_rfl
theorem sc257 : scalarB Tryd.prog 257 = true := by kernel_rfl
theorem rz258 : rowSz Tryd.prog 258 = some 4 := by kernel_rfl
theorem fo258_0 : fieldOff Tryd.prog 258 0 = some 0 := by kernel_rfl
theorem fo258_1 : fieldOff Tryd.prog 258 1 = some 1 := by kernel_rfl
theorem fo258_2 : fieldOff Tryd.prog 258 2 = some 2 := by kernel_rfl
theorem fo258_3 : fieldOff Tryd.prog 258 3 = some 3 := by kernel_rfl
theorem zc258 : zeroCs Tryd.prog 258 = some [.pointer none, .pointer none, .pointer none, .string ⟨#[]⟩] := by kernel_rfl
theorem rz260 : rowSz Tryd.prog 260 = some 0 := by kernel_rfl
theorem zc260 : zeroCs Tryd.prog 260 = some [] := by kernel_rfl
theorem rz261 : rowSz Tryd.prog 261 = some 0 := by kernel_rfl
theorem zc261 : zeroCs Tryd.prog 261 = some [] := by kernel_rfl
theorem sc263 : scalarB Tryd.prog 263 = true := by kernel_rfl
theorem sc264 : scalarB Tryd.prog 264 = true := by kernel_rfl
theorem zc264 : zeroCs Tryd.prog 264 = some [.int .u32 0] := by kernel_rfl
theorem sc267 : scalarB Tryd.prog 267 = true := by kernel_rfl
theorem sc268 : scalarB Tryd.prog 268 = true := by kernel_rfl
theorem rz271 : rowSz Tryd.prog 271 = some 11 := by kernel_rfl
theorem fo271_0 : fieldOff Tryd.prog 271 0 = some 0 := by kernel_rfl
theorem fo271_1 : fieldOff Tryd.prog 271 1 = some 1 := by kernel_rfl
theorem fo271_2 : fieldOff Tryd.prog 271 2 = some 2 := by kernel_rfl
theorem fo271_3 : fieldOff Tryd.prog 271 3 = some 3 := by kernel_rfl
theorem fo271_4 : fieldOff Tryd.prog 271 4 = some 4 := by kernel_rfl
theorem fo271_5 : fieldOff Tryd.prog 271 5 = some 5 := by kernel_rfl
theorem fo271_6 : fieldOff Tryd.prog 271 6 = some 6 := by kernel_rfl
theorem fo271_7 : fieldOff Tryd.prog 271 7 = some 7 := by kernel_rfl
theorem fo271_8 : fieldOff Tryd.prog 271 8 = some 8 := by kernel_rfl
theorem fo271_9 : fieldOff Tryd.prog 271 9 = some 9 := by kernel_rfl
theorem fo271_10 : fieldOff Tryd.prog 271 10 = some 10 := by kernel_rfl
theorem zc271 : zeroCs Tryd.prog 271 = some [.int .u64 0, .int .u64 0, .int .u32 0, .int .u8 0, .int .u8 0, .int .u8 0, .int .u8 0, .nilFunc, .pointer none, .int .i32 0, .int .i32 0] := by kernel_rfl
theorem cb2 : callableB Tryd.prog 2 = true := by kernel_rfl
theorem cb3 : callableB Tryd.prog 3 = true := by kernel_rfl
theorem cb4 : callableB Tryd.prog 4 = true := by kernel_rfl
theorem cb5 : callableB Tryd.prog 5 = true := by kernel_rfl
theorem cb6 : callableB Tryd.prog 6 = true := by kernel_rfl
theorem cb7 : callableB Tryd.prog 7 = true := by kernel_rfl
theorem cb8 : callableB Tryd.prog 8 = true := by kernel_rfl
theorem cb9 : callableB Tryd.prog 9 = true := by kernel_rfl
theorem cb10 : callableB Tryd.prog 10 = true := by kernel_rfl
theorem cb11 : callableB Tryd.prog 11 = true := by kernel_rfl
theorem cb12 : callableB Tryd.prog 12 = true := by kernel_rfl
theorem cb13 : callableB Tryd.prog 13 = true := by kernel_rfl
theorem cb14 : callableB Tryd.prog 14 = true := by kernel_rfl
theorem cb15 : callableB Tryd.prog 15 = true := by kernel_rfl
theorem cb16 : callableB Tryd.prog 16 = true := by kernel_rfl
theorem cb17 : callableB Tryd.prog 17 = true := by kernel_rfl
theorem cb18 : callableB Tryd.prog 18 = true := by kernel_rfl
theorem cb19 : callableB Tryd.prog 19 = true := by kernel_rfl
theorem cb20 : callableB Tryd.prog 20 = true := by kernel_rfl
theorem cb21 : callableB Tryd.prog 21 = true := by kernel_rfl
theorem cb22 : callableB Tryd.prog 22 = true := by kernel_rfl
theorem cb23 : callableB Tryd.prog 23 = true := by kernel_rfl
theorem cb24 : callableB Tryd.prog 24 = true := by kernel_rfl
theorem cb25 : callableB Tryd.prog 25 = true := by kernel_rfl
theorem cb26 : callableB Tryd.prog 26 = true := by kernel_rfl
theorem cb27 : callableB Tryd.prog 27 = true := by kernel_rfl
theorem cb28 : callableB Tryd.prog 28 = true := by kernel_rfl
theorem cb29 : callableB Tryd.prog 29 = true := by kernel_rfl
theorem cb30 : callableB Tryd.prog 30 = true := by kernel_rfl
theorem cb31 : callableB Tryd.prog 31 = true := by kernel_rfl
theorem cb32 : callableB Tryd.prog 32 = true := by kernel_rfl
theorem cb33 : callableB Tryd.prog 33 = true := by kernel_rfl
theorem cb34 : callableB Tryd.prog 34 = true := by kernel_rfl
theorem cb35 : callableB Tryd.prog 35 = true := by kernel_rfl
theorem cb36 : callableB Tryd.prog 36 = true := by kernel_rfl
theorem cb37 : callableB Tryd.prog 37 = true := by kernel_rfl
theorem cb38 : callableB Tryd.prog 38 = true := by kernel_rfl
theorem cb39 : callableB Tryd.prog 39 = true := by kernel_rfl
theorem cb40 : callableB Tryd.prog 40 = true := by kernel_rfl
theorem cb41 : callableB Tryd.prog 41 = true := by kernel_rfl
theorem cb42 : callableB Tryd.prog 42 = true := by kernel_rfl
theorem cb43 : callableB Tryd.prog 43 = true := by kernel_rfl
theorem cb44 : callableB Tryd.prog 44 = true := by kernel_rfl
theorem cb45 : callableB Tryd.prog 45 = true := by kernel_rfl
theorem cb46 : callableB Tryd.prog 46 = true := by kernel_rfl
theorem cb47 : callableB Tryd.prog 47 = true := by kernel_rfl
theorem cb48 : callableB Tryd.prog 48 = true := by kernel_rfl
theorem cb49 : callableB Tryd.prog 49 = true := by kernel_rfl
theorem cb50 : callableB Tryd.prog 50 = true := by kernel_rfl
theorem cb51 : callableB Tryd.prog 51 = true := by kernel_rfl
theorem cb52 : callableB Tryd.prog 52 = true := by kernel_rfl
theorem cb53 : callableB Tryd.prog 53 = true := by kernel_rfl
theorem cb54 : callableB Tryd.prog 54 = true := by kernel_rfl
theorem cb55 : callableB Tryd.prog 55 = true := by kernel_rfl
theorem cb56 : callableB Tryd.prog 56 = true := by kernel_rfl
theorem cb57 : callableB Tryd.prog 57 = true := by kernel_rfl
theorem cb58 : callableB Tryd.prog 58 = true := by kernel_rfl
theorem cb59 : callableB Tryd.prog 59 = true := by kernel_rfl
theorem cb60 : callableB Tryd.prog 60 = true := by kernel_rfl
theorem cb61 : callableB Tryd.prog 61 = true := by kernel_rfl
theorem cb62 : callableB Tryd.prog 62 = true := by kernel_rfl
theorem cb63 : callableB Tryd.prog 63 = true := by kernel_rfl
theorem cb64 : callableB Tryd.prog 64 = true := by kernel_rfl
theorem cb65 : callableB Tryd.prog 65 = true := by kernel_rfl
theorem cb66 : callableB Tryd.prog 66 = true := by kernel_rfl
theorem cb67 : callableB Tryd.prog 67 = true := by kernel_rfl
theorem cb68 : callableB Tryd.prog 68 = true := by kernel_rfl
theorem cb69 : callableB Tryd.prog 69 = true := by kernel_rfl
theorem cb70 : callableB Tryd.prog 70 = true := by kernel_rfl
theorem cb71 : callableB Tryd.prog 71 = true := by kernel_rfl
theorem cb72 : callableB Tryd.prog 72 = true := by kernel_rfl
theorem cb73 : callableB Tryd.prog 73 = true := by kernel_rfl
theorem cb74 : callableB Tryd.prog 74 = true := by kernel_rfl
theorem cb75 : callableB Tryd.prog 75 = true := by kernel_rfl
theorem cb76 : callableB Tryd.prog 76 = true := by kernel_rfl
theorem cb77 : callableB Tryd.prog 77 = true := by kernel_rfl
theorem cb78 : callableB Tryd.prog 78 = true := by kernel_rfl
theorem cb79 : callableB Tryd.prog 79 = true := by kernel_rfl
theorem cb80 : callableB Tryd.prog 80 = true := by kernel_rfl
theorem cb81 : callableB Tryd.prog 81 = true := by kernel_rfl
theorem cb82 : callableB Tryd.prog 82 = true := by kernel_rfl
theorem cb83 : callableB Tryd.prog 83 = true := by kernel_rfl
theorem cb84 : callableB Tryd.prog 84 = true := by kernel_rfl
theorem cb85 : callableB Tryd.prog 85 = true := by kernel_rfl
theorem cb86 : callableB Tryd.prog 86 = true := by kernel_rfl
theorem cb87 : callableB Tryd.prog 87 = true := by kernel_rfl
theorem cb88 : callableB Tryd.prog 88 = true := by kernel_rfl
theorem cb89 : callableB Tryd.prog 89 = true := by kernel_rfl
theorem cb90 : callableB Tryd.prog 90 = true := by kernel_rfl
theorem cb91 : callableB Tryd.prog 91 = true := by kernel_rfl
theorem cb92 : callableB Tryd.prog 92 = true := by kernel_rfl
theorem cb93 : callableB Tryd.prog 93 = true := by kernel_rfl
theorem cb94 : callableB Tryd.prog 94 = true := by kernel_rfl
theorem cb95 : callableB Tryd.prog 95 = true := by kernel_rfl
theorem cb96 : callableB Tryd.prog 96 = true := by kernel_rfl
theorem cb97 : callableB Tryd.prog 97 = true := by kernel_rfl
theorem cb98 : callableB Tryd.prog 98 = true := by kernel_rfl
theorem cb99 : callableB Tryd.prog 99 = true := by kernel_rfl
theorem cb100 : callableB Tryd.prog 100 = true := by kernel_rfl
theorem cb101 : callableB Tryd.prog 101 = true := by kernel_rfl
theorem cb102 : callableB Tryd.prog 102 = true := by kernel_rfl
theorem cb103 : callableB Tryd.prog 103 = true := by kernel_rfl
theorem cb104 : callableB Tryd.prog 104 = true := by kernel_rfl
theorem cb105 : callableB Tryd.prog 105 = true := by kernel_rfl
theorem cb106 : callableB Tryd.prog 106 = true := by kernel_rfl
theorem cb107 : callableB Tryd.prog 107 = true := by kernel_rfl
theorem cb108 : callableB Tryd.prog 108 = true := by kernel_rfl
theorem cb109 : callableB Tryd.prog 109 = true := by kernel_rfl
theorem cb110 : callableB Tryd.prog 110 = true := by kernel_rfl
theorem cb111 : callableB Tryd.prog 111 = true := by kernel_rfl
theorem cb112 : callableB Tryd.prog 112 = true := by kernel_rfl
theorem cb113 : callableB Tryd.prog 113 = true := by kernel_rfl
theorem cb114 : callableB Tryd.prog 114 = true := by kernel_rfl
theorem cb115 : callableB Tryd.prog 115 = true := by kernel_rfl
theorem cb116 : callableB Tryd.prog 116 = true := by kernel_rfl
theorem cb117 : callableB Tryd.prog 117 = true := by kernel_rfl
theorem cb118 : callableB Tryd.prog 118 = true := by kernel_rfl
theorem cb119 : callableB Tryd.prog 119 = true := by kernel_rfl
theorem cb120 : callableB Tryd.prog 120 = true := by kernel_rfl
theorem cb121 : callableB Tryd.prog 121 = true := by kernel_rfl
theorem cb122 : callableB Tryd.prog 122 = true := by kernel_rfl
theorem cb123 : callableB Tryd.prog 123 = true := by kernel_rfl
theorem cb124 : callableB Tryd.prog 124 = true := by kernel_rfl
theorem cb125 : callableB Tryd.prog 125 = true := by kernel_rfl
theorem cb126 : callableB Tryd.prog 126 = true := by kernel_rfl
theorem cb127 : callableB Tryd.prog 127 = true := by kernel_rfl
theorem cb128 : callableB Tryd.prog 128 = true := by kernel_rfl
theorem cb129 : callableB Tryd.prog 129 = true := by kernel_rfl
theorem cb130 : callableB Tryd.prog 130 = true := by kernel_rfl
theorem cb131 : callableB Tryd.prog 131 = true := by kernel_rfl
theorem cb132 : callableB Tryd.prog 132 = true := by kernel_rfl
theorem cb133 : callableB Tryd.prog 133 = true := by kernel_rfl
theorem cb134 : callableB Tryd.prog 134 = true := by kernel_rfl
theorem cb135 : callableB Tryd.prog 135 = true := by kernel_rfl
theorem cb136 : callableB Tryd.prog 136 = true := by kernel_rfl
theorem cb137 : callableB Tryd.prog 137 = true := by kernel_rfl
theorem cb138 : callableB Tryd.prog 138 = true := by kernel_rfl
theorem cb139 : callableB Tryd.prog 139 = true := by kernel_rfl
theorem cb140 : callableB Tryd.prog 140 = true := by kernel_rfl
theorem cb141 : callableB Tryd.prog 141 = true := by kernel_rfl
theorem cb142 : callableB Tryd.prog 142 = true := by kernel_rfl
theorem cb143 : callableB Tryd.prog 143 = true := by kernel_rfl
theorem cb144 : callableB Tryd.prog 144 = true := by kernel_rfl
theorem cb145 : callableB Tryd.prog 145 = true := by kernel_rfl
theorem cb146 : callableB Tryd.prog 146 = true := by kernel_rfl
theorem cb147 : callableB Tryd.prog 147 = true := by kernel_rfl
theorem cb148 : callableB Tryd.prog 148 = true := by kernel_rfl
theorem cb149 : callableB Tryd.prog 149 = true := by kernel_rfl
theorem cb150 : callableB Tryd.prog 150 = true := by kernel_rfl
theorem cb151 : callableB Tryd.prog 151 = true := by kernel_rfl
theorem cb152 : callableB Tryd.prog 152 = true := by kernel_rfl
theorem cb153 : callableB Tryd.prog 153 = true := by kernel_rfl
theorem cb154 : callableB Tryd.prog 154 = true := by kernel_rfl
theorem cb155 : callableB Tryd.prog 155 = true := by kernel_rfl
theorem cb156 : callableB Tryd.prog 156 = true := by kernel_rfl
theorem cb157 : callableB Tryd.prog 157 = true := by kernel_rfl
theorem cb158 : callableB Tryd.prog 158 = true := by kernel_rfl
theorem cb159 : callableB Tryd.prog 159 = true := by kernel_rfl
theorem cb160 : callableB Tryd.prog 160 = true := by kernel_rfl
theorem cb161 : callableB Tryd.prog 161 = true := by kernel_rfl
theorem cb162 : callableB Tryd.prog 162 = true := by kernel_rfl
theorem cb163 : callableB Tryd.prog 163 = true := by kernel_rfl
theorem cb164 : callableB Tryd.prog 164 = true := by kernel_rfl
theorem cb165 : callableB Tryd.prog 165 = true := by kernel_rfl
theorem cb166 : callableB Tryd.prog 166 = true := by kernel_rfl
theorem cb167 : callableB Tryd.prog 167 = true := by kernel_rfl
theorem cb168 : callableB Tryd.prog 168 = true := by kernel_rfl
theorem cb169 : callableB Tryd.prog 169 = true := by kernel_rfl
theorem cb170 : callableB Tryd.prog 170 = true := by kernel_rfl
theorem cb171 : callableB Tryd.prog 171 = true := by kernel_rfl
theorem cb172 : callableB Tryd.prog 172 = true := by kernel_rfl
theorem cb173 : callableB Tryd.prog 173 = true := by kernel_rfl
theorem cb174 : callableB Tryd.prog 174 = true := by kernel_rfl
theorem cb175 : callableB Tryd.prog 175 = true := by kernel_rfl
theorem cb176 : callableB Tryd.prog 176 = true := by kernel_rfl
theorem cb177 : callableB Tryd.prog 177 = true := by kernel_rfl
theorem cb178 : callableB Tryd.prog 178 = true := by kernel_rfl
theorem cb179 : callableB Tryd.prog 179 = true := by kernel_rfl
theorem cb180 : callableB Tryd.prog 180 = true := by kernel_rfl
theorem cb181 : callableB Tryd.prog 181 = true := by kernel_rfl
theorem cb182 : callableB Tryd.prog 182 = true := by kernel_rfl
theorem cb183 : callableB Tryd.prog 183 = true := by kernel_rfl
theorem cb184 : callableB Tryd.prog 184 = true := by kernel_rfl
theorem cb185 : callableB Tryd.prog 185 = true := by kernel_rfl
theorem cb186 : callableB Tryd.prog 186 = true := by kernel_rfl
theorem cb187 : callableB Tryd.prog 187 = true := by kernel_rfl
theorem cb188 : callableB Tryd.prog 188 = true := by kernel_rfl
theorem cb189 : callableB Tryd.prog 189 = true := by kernel_rfl
theorem cb190 : callableB Tryd.prog 190 = true := by kernel_rfl
theorem cb191 : callableB Tryd.prog 191 = true := by kernel_rfl
theorem cb192 : callableB Tryd.prog 192 = true := by kernel_rfl
theorem cb193 : callableB Tryd.prog 193 = true := by kernel_rfl
theorem cb194 : callableB Tryd.prog 194 = true := by kernel_rfl
theorem cb195 : callableB Tryd.prog 195 = true := by kernel_rfl
theorem cb196 : callableB Tryd.prog 196 = true := by kernel_rfl
theorem cb197 : callableB Tryd.prog 197 = true := by kernel_rfl
theorem cb198 : callableB Tryd.prog 198 = true := by kernel_rfl
theorem cb199 : callableB Tryd.prog 199 = true := by kernel_rfl
theorem cb200 : callableB Tryd.prog 200 = true := by kernel_rfl
theorem cb201 : callableB Tryd.prog 201 = true := by kernel_rfl
theorem cb202 : callableB Tryd.prog 202 = true := by kernel_rfl
theorem cb203 : callableB Tryd.prog 203 = true := by kernel_rfl
theorem cb204 : callableB Tryd.prog 204 = true := by kernel_rfl
theorem cb205 : callableB Tryd.prog 205 = true := by kernel_rfl
theorem cb207 : callableB Tryd.prog 207 = true := by kernel_rfl
theorem cb230 : callableB Tryd.prog 230 = true := by kernel_rfl
theorem mixed : Tryd.prog.follows .mixedOrders = true := by kernel_rfl

end Go.Proofs.YtmpomocahgcebaaDoor
