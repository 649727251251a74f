/- Walks of functions of the given program: each returns what its Lean function says and leaves the memory that was there as it was. Conditions: those of each theorem. -/
import Derived.Test.YtlgkooeflgmcaaaSz
import Derived.Test.YtlgkooeflgmcaaaProg
import Derived.Test.YtlgkooeflgmcaaaPl
import Derived.Test.YtlgkooeflgmcaaaPo
import Derived.Test.YtlgkooeflgmcaaaPd
import Derived.Test.YtlgkooeflgmcaaaPe
import Derived.Test.YtlgkooeflgmcaaaPf
import Derived.Test.YtlgkooeflgmcaaaSo
import Derived.Test.YtlgkooeflgmcaaaSh
import Derived.Test.YtlgkooeflgmcaaaT
import Derived.Test.YtlgkooeflgmcaaaW1
import Derived.Test.YtlgkooeflgmcaaaW2
import Derived.KernelRfl
namespace Go.Proofs.Ytlgkooeflgmcaaa.W3
open Go.Sx Go.RowKit Go.Proofs.Ytlgkooeflgmcaaa.T Go.Proofs.Ytlgkooeflgmcaaa.W1 Go.Proofs.Ytlgkooeflgmcaaa.W2
open Go.Plain
set_option linter.unusedVariables false

end Go.Proofs.Ytlgkooeflgmcaaa.W3
