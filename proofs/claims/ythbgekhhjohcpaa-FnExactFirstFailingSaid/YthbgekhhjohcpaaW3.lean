/- Walks of functions of the given program: each returns what its Lean function says and leaves the memory that was there as it was. Conditions: those of each theorem. -/
import Derived.Test.YthbgekhhjohcpaaSy
import Derived.Test.YthbgekhhjohcpaaProg
import Derived.Test.YthbgekhhjohcpaaPl
import Derived.Test.YthbgekhhjohcpaaPo
import Derived.Test.YthbgekhhjohcpaaPd
import Derived.Test.YthbgekhhjohcpaaSo
import Derived.Test.YthbgekhhjohcpaaSh
import Derived.Test.YthbgekhhjohcpaaT
import Derived.Test.YthbgekhhjohcpaaW1
import Derived.Test.YthbgekhhjohcpaaW2
import Derived.KernelRfl
namespace Go.Proofs.Ythbgekhhjohcpaa.W3
open Go.Sx Go.RowKit Go.Proofs.Ythbgekhhjohcpaa.T Go.Proofs.Ythbgekhhjohcpaa.W1 Go.Proofs.Ythbgekhhjohcpaa.W2
open Go.Plain

end Go.Proofs.Ythbgekhhjohcpaa.W3
