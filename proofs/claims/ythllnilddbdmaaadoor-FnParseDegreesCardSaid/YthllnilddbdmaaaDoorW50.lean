/- Walks of functions of the given program: each returns what its Lean function says and leaves the memory that was there as it was. Conditions: those of each theorem. -/
import Derived.Test.YthllnilddbdmaaaDoorSm
import Derived.Test.YthllnilddbdmaaaDoorProg
import Derived.Test.YthllnilddbdmaaaDoorPl
import Derived.Test.YthllnilddbdmaaaDoorPo
import Derived.Test.YthllnilddbdmaaaDoorPd
import Derived.Test.YthllnilddbdmaaaDoorPe
import Derived.Test.YthllnilddbdmaaaDoorPh
import Derived.Test.YthllnilddbdmaaaDoorPm
import Derived.Test.YthllnilddbdmaaaDoorPc
import Derived.Test.YthllnilddbdmaaaDoorPs
import Derived.Test.YthllnilddbdmaaaDoorPt
import Derived.Test.YthllnilddbdmaaaDoorPu
import Derived.Test.YthllnilddbdmaaaDoorPv
import Derived.Test.YthllnilddbdmaaaDoorPw
import Derived.Test.YthllnilddbdmaaaDoorPx
import Derived.Test.YthllnilddbdmaaaDoorPy
import Derived.Test.YthllnilddbdmaaaDoorPz
import Derived.Test.YthllnilddbdmaaaDoorPr
import Derived.Test.YthllnilddbdmaaaDoorPa
import Derived.Test.YthllnilddbdmaaaDoorPn
import Derived.Test.YthllnilddbdmaaaDoorPj
import Derived.Test.YthllnilddbdmaaaDoorPq
import Derived.Test.YthllnilddbdmaaaDoorSs
import Derived.Test.YthllnilddbdmaaaDoorPk
import Derived.Test.YthllnilddbdmaaaDoorSb
import Derived.Test.YthllnilddbdmaaaDoorT
import Derived.KernelRfl
namespace Go.Proofs.YthllnilddbdmaaaDoor.W50
open Go.Sx Go.RowKit Go.Proofs.YthllnilddbdmaaaDoor.T
open Go.Plain
set_option linter.unusedVariables false
set_option maxRecDepth 100000 in
theorem wstr_c (w w0 : World) (Bd : Nat) (F : List Ent) (s : ByteArray) (g : Nat) (pv : Value) (A : Option Addr) (n : Nat) (c : Nat) (bs : List Nat) (hF : F = []) (hpv : pv = .pointer none ∨ pv = .pointer (some ⟨g, 0, none⟩)) (eA : bs.length = n) (hn : n + s.size ≤ 1000000) (hss : SS w0 Bd ((blk g [pv, .slice A (n) (c)] 67) :: (row 5 1 A (n) (c) (cells fY bs)) :: F) w) : Calls Tryd.prog 46 #[elp (some ⟨g, 0, none⟩) (0), .string (s)] w (Ret fun rv w' => ∃ A2 c2, (n + s.size ≤ c2) ∧ rv = .tuple #[.int .i64 (((s.size : Nat) : Int)), .nilIface] ∧ SS w0 Bd ((blk g [.pointer (some ⟨g, 0, none⟩), .slice A2 (n + s.size) (c2)] 67) :: (row 5 1 A2 (n + s.size) (c2) (cells fY (bs ++ Sb.bytesN s))) :: F) w') :=
  Sb.wstr_c w w0 Bd F g pv A n c bs s hF hpv eA hn hss
set_option maxRecDepth 100000 in
theorem bstring_c (w w0 : World) (Bd : Nat) (F : List Ent) (g : Nat) (pv : Value) (A : Option Addr) (n : Nat) (c : Nat) (bs : List Nat) (l : List UInt8) (hF : F = []) (hpv : pv = .pointer none ∨ pv = .pointer (some ⟨g, 0, none⟩)) (eA : bs.length = n) (hl : bs = l.map UInt8.toNat) (hss : SS w0 Bd ((blk g [pv, .slice A (n) (c)] 67) :: (row 5 1 A (n) (c) (cells fY bs)) :: F) w) : Calls Tryd.prog 48 #[elp (some ⟨g, 0, none⟩) (0)] w (Ret fun rv w' => rv = .string (bstr l) ∧ SS w0 Bd (F) w') :=
  Sb.bstring_c w w0 Bd F g pv A n c bs l hF hpv eA hl hss
set_option maxRecDepth 100000 in
theorem itoa_c (w : World) (m : Int) (hm : 0 ≤ m ∧ m < 100) : Calls Tryd.prog 47 #[.int .i64 (m)] w (Ret fun rv w' => rv = .string (bstr (dg m)) ∧ New w w' []) :=
  Sb.itoa_c w m hm
end Go.Proofs.YthllnilddbdmaaaDoor.W50
