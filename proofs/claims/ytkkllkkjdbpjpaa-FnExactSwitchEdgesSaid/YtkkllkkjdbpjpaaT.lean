/- Facts on the types and the functions of the given program, each by looking. Conditions: none. -/
import Derived.Test.YtkkllkkjdbpjpaaSy
import Derived.Test.YtkkllkkjdbpjpaaProg
import Derived.KernelRfl
namespace Go.Proofs.Ytkkllkkjdbpjpaa.T
open Go.Sx Go.RowKit
theorem mixO : Try.prog.follows .mixedOrders = true := by kernel_rfl
theorem tI3 : tyI Try.prog 3 = some (false, 1, 8, .int .i64 0) := by kernel_rfl
theorem tI4 : tyI Try.prog 4 = some (false, 1, 1, .bool false) := by kernel_rfl
theorem tI5 : tyI Try.prog 5 = some (false, 1, 1, .int .u8 0) := by kernel_rfl
theorem tI22 : tyI Try.prog 22 = some (false, 1, 24, .slice none 0 0) := by kernel_rfl
theorem tI23 : tyI Try.prog 23 = some (false, 1, 24, .slice none 0 0) := by kernel_rfl
theorem tI25 : tyI Try.prog 25 = some (true, 2, 32, .agg #[.int .i64 0, .slice none 0 0]) := by kernel_rfl
theorem tI32 : tyI Try.prog 32 = some (true, 3, 24, .agg #[.int .i64 0, .int .i64 0, .int .i64 0]) := by kernel_rfl
theorem tI34 : tyI Try.prog 34 = some (false, 1, 24, .slice none 0 0) := by kernel_rfl
theorem tI36 : tyI Try.prog 36 = some (true, 2, 32, .agg #[.int .i64 0, .slice none 0 0]) := by kernel_rfl
theorem tI38 : tyI Try.prog 38 = some (false, 1, 24, .slice none 0 0) := by kernel_rfl
theorem tI52 : tyI Try.prog 52 = some (true, 4, 32, .agg #[.int .i64 0, .int .i64 0, .int .i64 0, .int .i64 0]) := by kernel_rfl
theorem tI54 : tyI Try.prog 54 = some (true, 4, 32, .agg #[.int .i64 0, .int .i64 0, .int .i64 0, .int .i64 0]) := by kernel_rfl
theorem tI65 : tyI Try.prog 65 = some (true, 2, 16, .agg #[.int .i64 0, .int .i64 0]) := by kernel_rfl
theorem tI106 : tyI Try.prog 106 = some (false, 1, 24, .slice none 0 0) := by kernel_rfl
theorem tI112 : tyI Try.prog 112 = some (true, 2, 16, .agg #[.int .i64 0, .int .i64 0]) := by kernel_rfl
theorem tI144 : tyI Try.prog 144 = some (false, 1, 24, .slice none 0 0) := by kernel_rfl
theorem sI22 : sliceI Try.prog 22 = some 5 := by kernel_rfl
theorem sI23 : sliceI Try.prog 23 = some 65 := by kernel_rfl
theorem sI27 : sliceI Try.prog 27 = some 32 := by kernel_rfl
theorem sI34 : sliceI Try.prog 34 = some 112 := by kernel_rfl
theorem sI38 : sliceI Try.prog 38 = some 3 := by kernel_rfl
theorem sI106 : sliceI Try.prog 106 = some 38 := by kernel_rfl
theorem sI144 : sliceI Try.prog 144 = some 4 := by kernel_rfl
theorem fI25_0 : fieldI Try.prog 25 0 = some (0, false) := by kernel_rfl
theorem fI25_1 : fieldI Try.prog 25 1 = some (1, false) := by kernel_rfl
theorem fI32_0 : fieldI Try.prog 32 0 = some (0, false) := by kernel_rfl
theorem fI32_1 : fieldI Try.prog 32 1 = some (1, false) := by kernel_rfl
theorem fI32_2 : fieldI Try.prog 32 2 = some (2, false) := by kernel_rfl
theorem fI36_0 : fieldI Try.prog 36 0 = some (0, false) := by kernel_rfl
theorem fI36_1 : fieldI Try.prog 36 1 = some (1, false) := by kernel_rfl
theorem fI52_0 : fieldI Try.prog 52 0 = some (0, false) := by kernel_rfl
theorem fI52_1 : fieldI Try.prog 52 1 = some (1, false) := by kernel_rfl
theorem fI52_2 : fieldI Try.prog 52 2 = some (2, false) := by kernel_rfl
theorem fI52_3 : fieldI Try.prog 52 3 = some (3, false) := by kernel_rfl
theorem fI54_0 : fieldI Try.prog 54 0 = some (0, false) := by kernel_rfl
theorem fI54_1 : fieldI Try.prog 54 1 = some (1, false) := by kernel_rfl
theorem fI54_2 : fieldI Try.prog 54 2 = some (2, false) := by kernel_rfl
theorem fI54_3 : fieldI Try.prog 54 3 = some (3, false) := by kernel_rfl
theorem fI65_0 : fieldI Try.prog 65 0 = some (0, false) := by kernel_rfl
theorem fI65_1 : fieldI Try.prog 65 1 = some (1, false) := by kernel_rfl
theorem fI100_0 : fieldI Try.prog 100 0 = some (0, false) := by kernel_rfl
theorem fI100_1 : fieldI Try.prog 100 1 = some (1, false) := by kernel_rfl
theorem fI112_0 : fieldI Try.prog 112 0 = some (0, false) := by kernel_rfl
theorem fI112_1 : fieldI Try.prog 112 1 = some (1, false) := by kernel_rfl
theorem uI3 : Try.prog.underlying 3 = some (.int .i64) := by kernel_rfl
theorem uI4 : Try.prog.underlying 4 = some .bool := by kernel_rfl
theorem uI5 : Try.prog.underlying 5 = some (.int .u8) := by kernel_rfl
theorem uI9 : Try.prog.underlying 9 = some .string := by kernel_rfl
theorem uM63 : Try.prog.underlying 63 = some (.map 65 3) := by kernel_rfl
theorem eqE32 : eqE Try.prog 32 3 = true := by kernel_rfl
theorem eqE65 : eqE Try.prog 65 2 = true := by kernel_rfl
theorem en3 : Enters Try.prog 3 := enters_of Try.func3 (by kernel_rfl) rfl
theorem en4 : Enters Try.prog 4 := enters_of Try.func4 (by kernel_rfl) rfl
theorem en5 : Enters Try.prog 5 := enters_of Try.func5 (by kernel_rfl) rfl
theorem en6 : Enters Try.prog 6 := enters_of Try.func6 (by kernel_rfl) rfl
theorem en7 : Enters Try.prog 7 := enters_of Try.func7 (by kernel_rfl) rfl
theorem en8 : Enters Try.prog 8 := enters_of Try.func8 (by kernel_rfl) rfl
theorem en9 : Enters Try.prog 9 := enters_of Try.func9 (by kernel_rfl) rfl
theorem en10 : Enters Try.prog 10 := enters_of Try.func10 (by kernel_rfl) rfl
theorem en11 : Enters Try.prog 11 := enters_of Try.func11 (by kernel_rfl) rfl
theorem en12 : Enters Try.prog 12 := enters_of Try.func12 (by kernel_rfl) rfl
theorem en13 : Enters Try.prog 13 := enters_of Try.func13 (by kernel_rfl) rfl
theorem en14 : Enters Try.prog 14 := enters_of Try.func14 (by kernel_rfl) rfl
theorem en15 : Enters Try.prog 15 := enters_of Try.func15 (by kernel_rfl) rfl
theorem en16 : Enters Try.prog 16 := enters_of Try.func16 (by kernel_rfl) rfl
theorem en17 : Enters Try.prog 17 := enters_of Try.func17 (by kernel_rfl) rfl
theorem en18 : Enters Try.prog 18 := enters_of Try.func18 (by kernel_rfl) rfl
theorem en19 : Enters Try.prog 19 := enters_of Try.func19 (by kernel_rfl) rfl
theorem en20 : Enters Try.prog 20 := enters_of Try.func20 (by kernel_rfl) rfl
theorem en21 : Enters Try.prog 21 := enters_of Try.func21 (by kernel_rfl) rfl
theorem en22 : Enters Try.prog 22 := enters_of Try.func22 (by kernel_rfl) rfl
theorem en23 : Enters Try.prog 23 := enters_of Try.func23 (by kernel_rfl) rfl
theorem en24 : Enters Try.prog 24 := enters_of Try.func24 (by kernel_rfl) rfl
theorem en25 : Enters Try.prog 25 := enters_of Try.func25 (by kernel_rfl) rfl
theorem en26 : Enters Try.prog 26 := enters_of Try.func26 (by kernel_rfl) rfl
theorem en27 : Enters Try.prog 27 := enters_of Try.func27 (by kernel_rfl) rfl
theorem en28 : Enters Try.prog 28 := enters_of Try.func28 (by kernel_rfl) rfl
theorem en29 : Enters Try.prog 29 := enters_of Try.func29 (by kernel_rfl) rfl
theorem en30 : Enters Try.prog 30 := enters_of Try.func30 (by kernel_rfl) rfl
theorem en31 : Enters Try.prog 31 := enters_of Try.func31 (by kernel_rfl) rfl
theorem en32 : Enters Try.prog 32 := enters_of Try.func32 (by kernel_rfl) rfl
theorem en33 : Enters Try.prog 33 := enters_of Try.func33 (by kernel_rfl) rfl
theorem en34 : Enters Try.prog 34 := enters_of Try.func34 (by kernel_rfl) rfl
theorem en35 : Enters Try.prog 35 := enters_of Try.func35 (by kernel_rfl) rfl
theorem en36 : Enters Try.prog 36 := enters_of Try.func36 (by kernel_rfl) rfl
theorem en39 : Enters Try.prog 39 := enters_of Try.func39 (by kernel_rfl) rfl
theorem en40 : Enters Try.prog 40 := enters_of Try.func40 (by kernel_rfl) rfl
theorem en41 : Enters Try.prog 41 := enters_of Try.func41 (by kernel_rfl) rfl
theorem en42 : Enters Try.prog 42 := enters_of Try.func42 (by kernel_rfl) rfl
theorem en43 : Enters Try.prog 43 := enters_of Try.func43 (by kernel_rfl) rfl
theorem en44 : Enters Try.prog 44 := enters_of Try.func44 (by kernel_rfl) rfl
theorem en45 : Enters Try.prog 45 := enters_of Try.func45 (by kernel_rfl) rfl
theorem en46 : Enters Try.prog 46 := enters_of Try.func46 (by kernel_rfl) rfl
theorem en47 : Enters Try.prog 47 := enters_of Try.func47 (by kernel_rfl) rfl
theorem en48 : Enters Try.prog 48 := enters_of Try.func48 (by kernel_rfl) rfl
theorem en49 : Enters Try.prog 49 := enters_of Try.func49 (by kernel_rfl) rfl
theorem en50 : Enters Try.prog 50 := enters_of Try.func50 (by kernel_rfl) rfl
theorem en51 : Enters Try.prog 51 := enters_of Try.func51 (by kernel_rfl) rfl
theorem en52 : Enters Try.prog 52 := enters_of Try.func52 (by kernel_rfl) rfl
theorem en53 : Enters Try.prog 53 := enters_of Try.func53 (by kernel_rfl) rfl
theorem en54 : Enters Try.prog 54 := enters_of Try.func54 (by kernel_rfl) rfl
theorem en55 : Enters Try.prog 55 := enters_of Try.func55 (by kernel_rfl) rfl
theorem en56 : Enters Try.prog 56 := enters_of Try.func56 (by kernel_rfl) rfl
theorem en57 : Enters Try.prog 57 := enters_of Try.func57 (by kernel_rfl) rfl
theorem en58 : Enters Try.prog 58 := enters_of Try.func58 (by kernel_rfl) rfl
theorem en59 : Enters Try.prog 59 := enters_of Try.func59 (by kernel_rfl) rfl
theorem en60 : Enters Try.prog 60 := enters_of Try.func60 (by kernel_rfl) rfl
theorem en61 : Enters Try.prog 61 := enters_of Try.func61 (by kernel_rfl) rfl
theorem en62 : Enters Try.prog 62 := enters_of Try.func62 (by kernel_rfl) rfl
theorem en63 : Enters Try.prog 63 := enters_of Try.func63 (by kernel_rfl) rfl
theorem en64 : Enters Try.prog 64 := enters_of Try.func64 (by kernel_rfl) rfl
theorem en65 : Enters Try.prog 65 := enters_of Try.func65 (by kernel_rfl) rfl
theorem en66 : Enters Try.prog 66 := enters_of Try.func66 (by kernel_rfl) rfl
theorem en67 : Enters Try.prog 67 := enters_of Try.func67 (by kernel_rfl) rfl
theorem en68 : Enters Try.prog 68 := enters_of Try.func68 (by kernel_rfl) rfl
theorem en69 : Enters Try.prog 69 := enters_of Try.func69 (by kernel_rfl) rfl
theorem en70 : Enters Try.prog 70 := enters_of Try.func70 (by kernel_rfl) rfl
theorem en71 : Enters Try.prog 71 := enters_of Try.func71 (by kernel_rfl) rfl
theorem en72 : Enters Try.prog 72 := enters_of Try.func72 (by kernel_rfl) rfl
theorem en73 : Enters Try.prog 73 := enters_of Try.func73 (by kernel_rfl) rfl
theorem en74 : Enters Try.prog 74 := enters_of Try.func74 (by kernel_rfl) rfl
theorem en75 : Enters Try.prog 75 := enters_of Try.func75 (by kernel_rfl) rfl
theorem en76 : Enters Try.prog 76 := enters_of Try.func76 (by kernel_rfl) rfl
theorem en77 : Enters Try.prog 77 := enters_of Try.func77 (by kernel_rfl) rfl
theorem en78 : Enters Try.prog 78 := enters_of Try.func78 (by kernel_rfl) rfl
theorem en81 : Enters Try.prog 81 := enters_of Try.func81 (by kernel_rfl) rfl
theorem en82 : Enters Try.prog 82 := enters_of Try.func82 (by kernel_rfl) rfl
theorem en83 : Enters Try.prog 83 := enters_of Try.func83 (by kernel_rfl) rfl
theorem en84 : Enters Try.prog 84 := enters_of Try.func84 (by kernel_rfl) rfl
theorem en85 : Enters Try.prog 85 := enters_of Try.func85 (by kernel_rfl) rfl
theorem en86 : Enters Try.prog 86 := enters_of Try.func86 (by kernel_rfl) rfl
theorem en87 : Enters Try.prog 87 := enters_of Try.func87 (by kernel_rfl) rfl
theorem en88 : Enters Try.prog 88 := enters_of Try.func88 (by kernel_rfl) rfl
theorem en89 : Enters Try.prog 89 := enters_of Try.func89 (by kernel_rfl) rfl
theorem en90 : Enters Try.prog 90 := enters_of Try.func90 (by kernel_rfl) rfl
theorem en91 : Enters Try.prog 91 := enters_of Try.func91 (by kernel_rfl) rfl
theorem en92 : Enters Try.prog 92 := enters_of Try.func92 (by kernel_rfl) rfl
theorem en93 : Enters Try.prog 93 := enters_of Try.func93 (by kernel_rfl) rfl
theorem en94 : Enters Try.prog 94 := enters_of Try.func94 (by kernel_rfl) rfl
theorem en95 : Enters Try.prog 95 := enters_of Try.func95 (by kernel_rfl) rfl
theorem en96 : Enters Try.prog 96 := enters_of Try.func96 (by kernel_rfl) rfl
theorem en97 : Enters Try.prog 97 := enters_of Try.func97 (by kernel_rfl) rfl
theorem en98 : Enters Try.prog 98 := enters_of Try.func98 (by kernel_rfl) rfl
theorem en99 : Enters Try.prog 99 := enters_of Try.func99 (by kernel_rfl) rfl
theorem en100 : Enters Try.prog 100 := enters_of Try.func100 (by kernel_rfl) rfl
theorem en101 : Enters Try.prog 101 := enters_of Try.func101 (by kernel_rfl) rfl
theorem en102 : Enters Try.prog 102 := enters_of Try.func102 (by kernel_rfl) rfl
theorem en103 : Enters Try.prog 103 := enters_of Try.func103 (by kernel_rfl) rfl
theorem en104 : Enters Try.prog 104 := enters_of Try.func104 (by kernel_rfl) rfl
theorem en105 : Enters Try.prog 105 := enters_of Try.func105 (by kernel_rfl) rfl
theorem en106 : Enters Try.prog 106 := enters_of Try.func106 (by kernel_rfl) rfl
theorem en107 : Enters Try.prog 107 := enters_of Try.func107 (by kernel_rfl) rfl
theorem en108 : Enters Try.prog 108 := enters_of Try.func108 (by kernel_rfl) rfl
theorem en109 : Enters Try.prog 109 := enters_of Try.func109 (by kernel_rfl) rfl
theorem en110 : Enters Try.prog 110 := enters_of Try.func110 (by kernel_rfl) rfl
theorem en111 : Enters Try.prog 111 := enters_of Try.func111 (by kernel_rfl) rfl
theorem en112 : Enters Try.prog 112 := enters_of Try.func112 (by kernel_rfl) rfl
theorem en115 : Enters Try.prog 115 := enters_of Try.func115 (by kernel_rfl) rfl
theorem en116 : Enters Try.prog 116 := enters_of Try.func116 (by kernel_rfl) rfl
theorem en117 : Enters Try.prog 117 := enters_of Try.func117 (by kernel_rfl) rfl
theorem en118 : Enters Try.prog 118 := enters_of Try.func118 (by kernel_rfl) rfl
theorem en119 : Enters Try.prog 119 := enters_of Try.func119 (by kernel_rfl) rfl
theorem en120 : Enters Try.prog 120 := enters_of Try.func120 (by kernel_rfl) rfl
theorem en121 : Enters Try.prog 121 := enters_of Try.func121 (by kernel_rfl) rfl
theorem en122 : Enters Try.prog 122 := enters_of Try.func122 (by kernel_rfl) rfl
theorem en123 : Enters Try.prog 123 := enters_of Try.func123 (by kernel_rfl) rfl
theorem en125 : Enters Try.prog 125 := enters_of Try.func125 (by kernel_rfl) rfl
theorem en126 : Enters Try.prog 126 := enters_of Try.func126 (by kernel_rfl) rfl
theorem en127 : Enters Try.prog 127 := enters_of Try.func127 (by kernel_rfl) rfl
theorem en128 : Enters Try.prog 128 := enters_of Try.func128 (by kernel_rfl) rfl
theorem en129 : Enters Try.prog 129 := enters_of Try.func129 (by kernel_rfl) rfl
theorem en130 : Enters Try.prog 130 := enters_of Try.func130 (by kernel_rfl) rfl
theorem en131 : Enters Try.prog 131 := enters_of Try.func131 (by kernel_rfl) rfl
theorem en132 : Enters Try.prog 132 := enters_of Try.func132 (by kernel_rfl) rfl
theorem en133 : Enters Try.prog 133 := enters_of Try.func133 (by kernel_rfl) rfl
theorem en134 : Enters Try.prog 134 := enters_of Try.func134 (by kernel_rfl) rfl
theorem en135 : Enters Try.prog 135 := enters_of Try.func135 (by kernel_rfl) rfl
theorem en136 : Enters Try.prog 136 := enters_of Try.func136 (by kernel_rfl) rfl
theorem en137 : Enters Try.prog 137 := enters_of Try.func137 (by kernel_rfl) rfl
theorem en138 : Enters Try.prog 138 := enters_of Try.func138 (by kernel_rfl) rfl
theorem en139 : Enters Try.prog 139 := enters_of Try.func139 (by kernel_rfl) rfl
end Go.Proofs.Ytkkllkkjdbpjpaa.T
