/- Walks of functions of the given program: each returns what its Lean function says and leaves the memory that was there as it was. Conditions: those of each theorem. -/
import Derived.Test.YtlgkooeflgmcaabSz
import Derived.Test.YtlgkooeflgmcaabProg
import Derived.Test.YtlgkooeflgmcaabPl
import Derived.Test.YtlgkooeflgmcaabPo
import Derived.Test.YtlgkooeflgmcaabPd
import Derived.Test.YtlgkooeflgmcaabPe
import Derived.Test.YtlgkooeflgmcaabPh
import Derived.Test.YtlgkooeflgmcaabPm
import Derived.Test.YtlgkooeflgmcaabPc
import Derived.Test.YtlgkooeflgmcaabPs
import Derived.Test.YtlgkooeflgmcaabT
import Derived.Test.YtlgkooeflgmcaabW1
import Derived.Test.YtlgkooeflgmcaabW2
import Derived.Test.YtlgkooeflgmcaabW3
import Derived.Test.YtlgkooeflgmcaabW5
import Derived.Test.YtlgkooeflgmcaabW6
import Derived.Test.YtlgkooeflgmcaabW7
import Derived.Test.YtlgkooeflgmcaabW8
import Derived.Test.YtlgkooeflgmcaabW9
import Derived.KernelRfl
namespace Go.Proofs.Ytlgkooeflgmcaab.W10
open Go.Sx Go.RowKit Go.Proofs.Ytlgkooeflgmcaab.T Go.Proofs.Ytlgkooeflgmcaab.W1 Go.Proofs.Ytlgkooeflgmcaab.W2 Go.Proofs.Ytlgkooeflgmcaab.W3 Go.Proofs.Ytlgkooeflgmcaab.W5 Go.Proofs.Ytlgkooeflgmcaab.W6 Go.Proofs.Ytlgkooeflgmcaab.W7 Go.Proofs.Ytlgkooeflgmcaab.W8 Go.Proofs.Ytlgkooeflgmcaab.W9
open Go.Plain
set_option linter.unusedVariables false

end Go.Proofs.Ytlgkooeflgmcaab.W10
