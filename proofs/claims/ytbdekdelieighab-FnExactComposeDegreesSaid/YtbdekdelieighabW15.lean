/- Walks of functions of the given program: each returns what its Lean function says and leaves the memory that was there as it was. Conditions: those of each theorem. -/
import Derived.Test.YtbdekdelieighabSz
import Derived.Test.YtbdekdelieighabProg
import Derived.Test.YtbdekdelieighabPl
import Derived.Test.YtbdekdelieighabPo
import Derived.Test.YtbdekdelieighabPd
import Derived.Test.YtbdekdelieighabPe
import Derived.Test.YtbdekdelieighabPh
import Derived.Test.YtbdekdelieighabPm
import Derived.Test.YtbdekdelieighabPc
import Derived.Test.YtbdekdelieighabSo
import Derived.Test.YtbdekdelieighabSh
import Derived.Test.YtbdekdelieighabT
import Derived.Test.YtbdekdelieighabW1
import Derived.Test.YtbdekdelieighabW2
import Derived.Test.YtbdekdelieighabW3
import Derived.Test.YtbdekdelieighabW5
import Derived.Test.YtbdekdelieighabW6
import Derived.Test.YtbdekdelieighabW7
import Derived.Test.YtbdekdelieighabW8
import Derived.Test.YtbdekdelieighabW9
import Derived.Test.YtbdekdelieighabW10
import Derived.Test.YtbdekdelieighabW11
import Derived.Test.YtbdekdelieighabW12
import Derived.Test.YtbdekdelieighabW13
import Derived.Test.YtbdekdelieighabW14
import Derived.KernelRfl
namespace Go.Proofs.Ytbdekdelieighab.W15
open Go.Sx Go.RowKit Go.Proofs.Ytbdekdelieighab.T Go.Proofs.Ytbdekdelieighab.W1 Go.Proofs.Ytbdekdelieighab.W2 Go.Proofs.Ytbdekdelieighab.W3 Go.Proofs.Ytbdekdelieighab.W5 Go.Proofs.Ytbdekdelieighab.W6 Go.Proofs.Ytbdekdelieighab.W7 Go.Proofs.Ytbdekdelieighab.W8 Go.Proofs.Ytbdekdelieighab.W9 Go.Proofs.Ytbdekdelieighab.W10 Go.Proofs.Ytbdekdelieighab.W11 Go.Proofs.Ytbdekdelieighab.W12 Go.Proofs.Ytbdekdelieighab.W13 Go.Proofs.Ytbdekdelieighab.W14
open Go.Plain
set_option linter.unusedVariables false

end Go.Proofs.Ytbdekdelieighab.W15
