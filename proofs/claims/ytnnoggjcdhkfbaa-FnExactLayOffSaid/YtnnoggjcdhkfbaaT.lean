/- Facts on the types and the functions of the given program, each by looking. Conditions: none. -/
import Derived.Test.YtnnoggjcdhkfbaaSy
import Derived.Test.YtnnoggjcdhkfbaaProg
import Derived.KernelRfl
namespace Go.Proofs.Ytnnoggjcdhkfbaa.T
open Go.Sx Go.RowKit
theorem mixO : Try.prog.follows .mixedOrders = true := by kernel_rfl
theorem tI3 : tyI Try.prog 3 = some (false, 1, 8, .int .i64 0) := by kernel_rfl
theorem tI26 : tyI Try.prog 26 = some (false, 1, 24, .slice none 0 0) := by kernel_rfl
theorem sI26 : sliceI Try.prog 26 = some 3 := by kernel_rfl
theorem uI4 : Try.prog.underlying 4 = some .bool := by kernel_rfl
theorem en12 : Enters Try.prog 12 := enters_of Try.func12 (by kernel_rfl) rfl
theorem en15 : Enters Try.prog 15 := enters_of Try.func15 (by kernel_rfl) rfl
theorem en16 : Enters Try.prog 16 := enters_of Try.func16 (by kernel_rfl) rfl
theorem en18 : Enters Try.prog 18 := enters_of Try.func18 (by kernel_rfl) rfl
theorem en23 : Enters Try.prog 23 := enters_of Try.func23 (by kernel_rfl) rfl
theorem en24 : Enters Try.prog 24 := enters_of Try.func24 (by kernel_rfl) rfl
theorem en38 : Enters Try.prog 38 := enters_of Try.func38 (by kernel_rfl) rfl
theorem en41 : Enters Try.prog 41 := enters_of Try.func41 (by kernel_rfl) rfl
theorem en47 : Enters Try.prog 47 := enters_of Try.func47 (by kernel_rfl) rfl
theorem en48 : Enters Try.prog 48 := enters_of Try.func48 (by kernel_rfl) rfl
theorem en49 : Enters Try.prog 49 := enters_of Try.func49 (by kernel_rfl) rfl
theorem en50 : Enters Try.prog 50 := enters_of Try.func50 (by kernel_rfl) rfl
theorem en51 : Enters Try.prog 51 := enters_of Try.func51 (by kernel_rfl) rfl
theorem en52 : Enters Try.prog 52 := enters_of Try.func52 (by kernel_rfl) rfl
theorem en53 : Enters Try.prog 53 := enters_of Try.func53 (by kernel_rfl) rfl
theorem en60 : Enters Try.prog 60 := enters_of Try.func60 (by kernel_rfl) rfl
theorem en67 : Enters Try.prog 67 := enters_of Try.func67 (by kernel_rfl) rfl
theorem en86 : Enters Try.prog 86 := enters_of Try.func86 (by kernel_rfl) rfl
theorem en87 : Enters Try.prog 87 := enters_of Try.func87 (by kernel_rfl) rfl
theorem en88 : Enters Try.prog 88 := enters_of Try.func88 (by kernel_rfl) rfl
theorem en89 : Enters Try.prog 89 := enters_of Try.func89 (by kernel_rfl) rfl
theorem en90 : Enters Try.prog 90 := enters_of Try.func90 (by kernel_rfl) rfl
theorem en95 : Enters Try.prog 95 := enters_of Try.func95 (by kernel_rfl) rfl
theorem en109 : Enters Try.prog 109 := enters_of Try.func109 (by kernel_rfl) rfl
theorem en110 : Enters Try.prog 110 := enters_of Try.func110 (by kernel_rfl) rfl
theorem en111 : Enters Try.prog 111 := enters_of Try.func111 (by kernel_rfl) rfl
theorem en115 : Enters Try.prog 115 := enters_of Try.func115 (by kernel_rfl) rfl
end Go.Proofs.Ytnnoggjcdhkfbaa.T
