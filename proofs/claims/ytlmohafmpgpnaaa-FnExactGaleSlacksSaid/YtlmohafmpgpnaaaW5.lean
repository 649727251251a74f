/- Walks of functions of the given program: each returns what its Lean function says and leaves the memory that was there as it was. Conditions: those of each theorem. -/
import Derived.Test.YtlmohafmpgpnaaaSy
import Derived.Test.YtlmohafmpgpnaaaProg
import Derived.Test.YtlmohafmpgpnaaaPl
import Derived.Test.YtlmohafmpgpnaaaPo
import Derived.Test.YtlmohafmpgpnaaaPd
import Derived.Test.YtlmohafmpgpnaaaPe
import Derived.Test.YtlmohafmpgpnaaaSo
import Derived.Test.YtlmohafmpgpnaaaSh
import Derived.Test.YtlmohafmpgpnaaaT
import Derived.Test.YtlmohafmpgpnaaaW1
import Derived.Test.YtlmohafmpgpnaaaW2
import Derived.Test.YtlmohafmpgpnaaaW3
import Derived.KernelRfl
namespace Go.Proofs.Ytlmohafmpgpnaaa.W5
open Go.Sx Go.RowKit Go.Proofs.Ytlmohafmpgpnaaa.T Go.Proofs.Ytlmohafmpgpnaaa.W1 Go.Proofs.Ytlmohafmpgpnaaa.W2 Go.Proofs.Ytlmohafmpgpnaaa.W3
open Go.Plain
set_option linter.unusedVariables false

end Go.Proofs.Ytlmohafmpgpnaaa.W5
