/- Facts on the types and the functions of the given program, each by looking. Conditions: none. -/
import Derived.Test.YthllnilddbdmaaaDoorSy
import Derived.Test.YthllnilddbdmaaaDoorProg
import Derived.KernelRfl
namespace Go.Proofs.YthllnilddbdmaaaDoor.T
open Go.Sx Go.RowKit
theorem mixO : Tryd.prog.follows .mixedOrders = true := by kernel_rfl
theorem tI3 : tyI Tryd.prog 3 = some (false, 1, 8, .int .i64 0) := by kernel_rfl
theorem tI4 : tyI Tryd.prog 4 = some (false, 1, 1, .bool false) := by kernel_rfl
theorem tI5 : tyI Tryd.prog 5 = some (false, 1, 1, .int .u8 0) := by kernel_rfl
theorem tI9 : tyI Tryd.prog 9 = some (false, 1, 16, .string ByteArray.empty) := by kernel_rfl
theorem tI22 : tyI Tryd.prog 22 = some (false, 1, 24, .slice none 0 0) := by kernel_rfl
theorem tI24 : tyI Tryd.prog 24 = some (true, 2, 32, .agg #[.int .i64 0, .slice none 0 0]) := by kernel_rfl
theorem tI27 : tyI Tryd.prog 27 = some (false, 1, 24, .slice none 0 0) := by kernel_rfl
theorem tI29 : tyI Tryd.prog 29 = some (true, 2, 32, .agg #[.int .i64 0, .slice none 0 0]) := by kernel_rfl
theorem tI33 : tyI Tryd.prog 33 = some (false, 1, 24, .slice none 0 0) := by kernel_rfl
theorem tI38 : tyI Tryd.prog 38 = some (false, 1, 24, .slice none 0 0) := by kernel_rfl
theorem tI49 : tyI Tryd.prog 49 = some (true, 2, 16, .agg #[.int .i64 0, .int .i64 0]) := by kernel_rfl
theorem tI63 : tyI Tryd.prog 63 = some (true, 2, 16, .agg #[.int .i64 0, .int .i64 0]) := by kernel_rfl
theorem tI67 : tyI Tryd.prog 67 = some (true, 2, 32, .agg #[.pointer none, .slice none 0 0]) := by kernel_rfl
theorem sI22 : sliceI Tryd.prog 22 = some 63 := by kernel_rfl
theorem sI27 : sliceI Tryd.prog 27 = some 49 := by kernel_rfl
theorem sI33 : sliceI Tryd.prog 33 = some 3 := by kernel_rfl
theorem sI38 : sliceI Tryd.prog 38 = some 5 := by kernel_rfl
theorem sI47 : sliceI Tryd.prog 47 = some 9 := by kernel_rfl
theorem fI24_0 : fieldI Tryd.prog 24 0 = some (0, false) := by kernel_rfl
theorem fI24_1 : fieldI Tryd.prog 24 1 = some (1, false) := by kernel_rfl
theorem fI29_0 : fieldI Tryd.prog 29 0 = some (0, false) := by kernel_rfl
theorem fI29_1 : fieldI Tryd.prog 29 1 = some (1, false) := by kernel_rfl
theorem fI49_0 : fieldI Tryd.prog 49 0 = some (0, false) := by kernel_rfl
theorem fI49_1 : fieldI Tryd.prog 49 1 = some (1, false) := by kernel_rfl
theorem fI63_0 : fieldI Tryd.prog 63 0 = some (0, false) := by kernel_rfl
theorem fI63_1 : fieldI Tryd.prog 63 1 = some (1, false) := by kernel_rfl
theorem fI76_0 : fieldI Tryd.prog 76 0 = some (0, false) := by kernel_rfl
theorem fI76_1 : fieldI Tryd.prog 76 1 = some (1, false) := by kernel_rfl
theorem uI3 : Tryd.prog.underlying 3 = some (.int .i64) := by kernel_rfl
theorem uI4 : Tryd.prog.underlying 4 = some .bool := by kernel_rfl
theorem uI5 : Tryd.prog.underlying 5 = some (.int .u8) := by kernel_rfl
theorem uI9 : Tryd.prog.underlying 9 = some .string := by kernel_rfl
theorem en3 : Enters Tryd.prog 3 := enters_of Tryd.func3 (by kernel_rfl) rfl
theorem en4 : Enters Tryd.prog 4 := enters_of Tryd.func4 (by kernel_rfl) rfl
theorem en5 : Enters Tryd.prog 5 := enters_of Tryd.func5 (by kernel_rfl) rfl
theorem en6 : Enters Tryd.prog 6 := enters_of Tryd.func6 (by kernel_rfl) rfl
theorem en7 : Enters Tryd.prog 7 := enters_of Tryd.func7 (by kernel_rfl) rfl
theorem en8 : Enters Tryd.prog 8 := enters_of Tryd.func8 (by kernel_rfl) rfl
theorem en9 : Enters Tryd.prog 9 := enters_of Tryd.func9 (by kernel_rfl) rfl
theorem en10 : Enters Tryd.prog 10 := enters_of Tryd.func10 (by kernel_rfl) rfl
theorem en11 : Enters Tryd.prog 11 := enters_of Tryd.func11 (by kernel_rfl) rfl
theorem en12 : Enters Tryd.prog 12 := enters_of Tryd.func12 (by kernel_rfl) rfl
theorem en13 : Enters Tryd.prog 13 := enters_of Tryd.func13 (by kernel_rfl) rfl
theorem en14 : Enters Tryd.prog 14 := enters_of Tryd.func14 (by kernel_rfl) rfl
theorem en15 : Enters Tryd.prog 15 := enters_of Tryd.func15 (by kernel_rfl) rfl
theorem en16 : Enters Tryd.prog 16 := enters_of Tryd.func16 (by kernel_rfl) rfl
theorem en17 : Enters Tryd.prog 17 := enters_of Tryd.func17 (by kernel_rfl) rfl
theorem en18 : Enters Tryd.prog 18 := enters_of Tryd.func18 (by kernel_rfl) rfl
theorem en19 : Enters Tryd.prog 19 := enters_of Tryd.func19 (by kernel_rfl) rfl
theorem en20 : Enters Tryd.prog 20 := enters_of Tryd.func20 (by kernel_rfl) rfl
theorem en21 : Enters Tryd.prog 21 := enters_of Tryd.func21 (by kernel_rfl) rfl
theorem en22 : Enters Tryd.prog 22 := enters_of Tryd.func22 (by kernel_rfl) rfl
theorem en23 : Enters Tryd.prog 23 := enters_of Tryd.func23 (by kernel_rfl) rfl
theorem en24 : Enters Tryd.prog 24 := enters_of Tryd.func24 (by kernel_rfl) rfl
theorem en25 : Enters Tryd.prog 25 := enters_of Tryd.func25 (by kernel_rfl) rfl
theorem en26 : Enters Tryd.prog 26 := enters_of Tryd.func26 (by kernel_rfl) rfl
theorem en27 : Enters Tryd.prog 27 := enters_of Tryd.func27 (by kernel_rfl) rfl
theorem en28 : Enters Tryd.prog 28 := enters_of Tryd.func28 (by kernel_rfl) rfl
theorem en29 : Enters Tryd.prog 29 := enters_of Tryd.func29 (by kernel_rfl) rfl
theorem en30 : Enters Tryd.prog 30 := enters_of Tryd.func30 (by kernel_rfl) rfl
theorem en31 : Enters Tryd.prog 31 := enters_of Tryd.func31 (by kernel_rfl) rfl
theorem en32 : Enters Tryd.prog 32 := enters_of Tryd.func32 (by kernel_rfl) rfl
theorem en33 : Enters Tryd.prog 33 := enters_of Tryd.func33 (by kernel_rfl) rfl
theorem en34 : Enters Tryd.prog 34 := enters_of Tryd.func34 (by kernel_rfl) rfl
theorem en35 : Enters Tryd.prog 35 := enters_of Tryd.func35 (by kernel_rfl) rfl
theorem en36 : Enters Tryd.prog 36 := enters_of Tryd.func36 (by kernel_rfl) rfl
theorem en37 : Enters Tryd.prog 37 := enters_of Tryd.func37 (by kernel_rfl) rfl
theorem en38 : Enters Tryd.prog 38 := enters_of Tryd.func38 (by kernel_rfl) rfl
theorem en39 : Enters Tryd.prog 39 := enters_of Tryd.func39 (by kernel_rfl) rfl
theorem en40 : Enters Tryd.prog 40 := enters_of Tryd.func40 (by kernel_rfl) rfl
theorem en41 : Enters Tryd.prog 41 := enters_of Tryd.func41 (by kernel_rfl) rfl
theorem en42 : Enters Tryd.prog 42 := enters_of Tryd.func42 (by kernel_rfl) rfl
theorem en43 : Enters Tryd.prog 43 := enters_of Tryd.func43 (by kernel_rfl) rfl
theorem en44 : Enters Tryd.prog 44 := enters_of Tryd.func44 (by kernel_rfl) rfl
theorem en45 : Enters Tryd.prog 45 := enters_of Tryd.func45 (by kernel_rfl) rfl
theorem en46 : Enters Tryd.prog 46 := enters_of Tryd.func46 (by kernel_rfl) rfl
theorem en47 : Enters Tryd.prog 47 := enters_of Tryd.func47 (by kernel_rfl) rfl
theorem en48 : Enters Tryd.prog 48 := enters_of Tryd.func48 (by kernel_rfl) rfl
theorem en49 : Enters Tryd.prog 49 := enters_of Tryd.func49 (by kernel_rfl) rfl
theorem en50 : Enters Tryd.prog 50 := enters_of Tryd.func50 (by kernel_rfl) rfl
theorem en51 : Enters Tryd.prog 51 := enters_of Tryd.func51 (by kernel_rfl) rfl
theorem en52 : Enters Tryd.prog 52 := enters_of Tryd.func52 (by kernel_rfl) rfl
theorem en53 : Enters Tryd.prog 53 := enters_of Tryd.func53 (by kernel_rfl) rfl
theorem en54 : Enters Tryd.prog 54 := enters_of Tryd.func54 (by kernel_rfl) rfl
theorem en55 : Enters Tryd.prog 55 := enters_of Tryd.func55 (by kernel_rfl) rfl
theorem en56 : Enters Tryd.prog 56 := enters_of Tryd.func56 (by kernel_rfl) rfl
theorem en57 : Enters Tryd.prog 57 := enters_of Tryd.func57 (by kernel_rfl) rfl
theorem en58 : Enters Tryd.prog 58 := enters_of Tryd.func58 (by kernel_rfl) rfl
theorem en59 : Enters Tryd.prog 59 := enters_of Tryd.func59 (by kernel_rfl) rfl
theorem en61 : Enters Tryd.prog 61 := enters_of Tryd.func61 (by kernel_rfl) rfl
theorem en62 : Enters Tryd.prog 62 := enters_of Tryd.func62 (by kernel_rfl) rfl
theorem en63 : Enters Tryd.prog 63 := enters_of Tryd.func63 (by kernel_rfl) rfl
theorem en64 : Enters Tryd.prog 64 := enters_of Tryd.func64 (by kernel_rfl) rfl
theorem en68 : Enters Tryd.prog 68 := enters_of Tryd.func68 (by kernel_rfl) rfl
theorem en69 : Enters Tryd.prog 69 := enters_of Tryd.func69 (by kernel_rfl) rfl
theorem en74 : Enters Tryd.prog 74 := enters_of Tryd.func74 (by kernel_rfl) rfl
end Go.Proofs.YthllnilddbdmaaaDoor.T
