/- Walks of functions of the given program: each returns what its Lean function says and leaves the memory that was there as it was. Conditions: those of each theorem. -/
import Derived.Test.YtlmohafmpgpnaabSy
import Derived.Test.YtlmohafmpgpnaabProg
import Derived.Test.YtlmohafmpgpnaabPl
import Derived.Test.YtlmohafmpgpnaabPo
import Derived.Test.YtlmohafmpgpnaabPd
import Derived.Test.YtlmohafmpgpnaabPe
import Derived.Test.YtlmohafmpgpnaabSo
import Derived.Test.YtlmohafmpgpnaabSh
import Derived.Test.YtlmohafmpgpnaabT
import Derived.Test.YtlmohafmpgpnaabW1
import Derived.Test.YtlmohafmpgpnaabW2
import Derived.KernelRfl
namespace Go.Proofs.Ytlmohafmpgpnaab.W3
open Go.Sx Go.RowKit Go.Proofs.Ytlmohafmpgpnaab.T Go.Proofs.Ytlmohafmpgpnaab.W1 Go.Proofs.Ytlmohafmpgpnaab.W2
open Go.Plain
set_option linter.unusedVariables false

end Go.Proofs.Ytlmohafmpgpnaab.W3
