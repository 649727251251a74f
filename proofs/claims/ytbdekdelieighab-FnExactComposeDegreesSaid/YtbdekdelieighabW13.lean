/- Walks of functions of the given program: each returns what its Lean function says and leaves the memory that was there as it was. Conditions: those of each theorem. -/
import Derived.Test.YtbdekdelieighabSz
import Derived.Test.YtbdekdelieighabProg
import Derived.Test.YtbdekdelieighabPl
import Derived.Test.YtbdekdelieighabPo
import Derived.Test.YtbdekdelieighabPd
import Derived.Test.YtbdekdelieighabPe
import Derived.Test.YtbdekdelieighabPh
import Derived.Test.YtbdekdelieighabPm
import Derived.Test.YtbdekdelieighabPc
import Derived.Test.YtbdekdelieighabSo
import Derived.Test.YtbdekdelieighabSh
import Derived.Test.YtbdekdelieighabT
import Derived.Test.YtbdekdelieighabW1
import Derived.Test.YtbdekdelieighabW2
import Derived.Test.YtbdekdelieighabW3
import Derived.Test.YtbdekdelieighabW5
import Derived.Test.YtbdekdelieighabW6
import Derived.Test.YtbdekdelieighabW7
import Derived.Test.YtbdekdelieighabW8
import Derived.Test.YtbdekdelieighabW9
import Derived.Test.YtbdekdelieighabW10
import Derived.Test.YtbdekdelieighabW11
import Derived.Test.YtbdekdelieighabW12
import Derived.KernelRfl
namespace Go.Proofs.Ytbdekdelieighab.W13
open Go.Sx Go.RowKit Go.Proofs.Ytbdekdelieighab.T Go.Proofs.Ytbdekdelieighab.W1 Go.Proofs.Ytbdekdelieighab.W2 Go.Proofs.Ytbdekdelieighab.W3 Go.Proofs.Ytbdekdelieighab.W5 Go.Proofs.Ytbdekdelieighab.W6 Go.Proofs.Ytbdekdelieighab.W7 Go.Proofs.Ytbdekdelieighab.W8 Go.Proofs.Ytbdekdelieighab.W9 Go.Proofs.Ytbdekdelieighab.W10 Go.Proofs.Ytbdekdelieighab.W11 Go.Proofs.Ytbdekdelieighab.W12
open Go.Plain
set_option linter.unusedVariables false
set_option maxRecDepth 100000 in
theorem clipL_c (w : World) (A : Option Addr) (n : Nat) (c : Nat) (hs : List (Option Addr × Nat × Nat)) (hA : At w A (cells fL hs)) (eA : hs.length = n) (lA : n ≤ c) : Calls Try.prog 56 #[.slice A (n) (c)] w (Ret fun rv w' => rv = .slice A (n) (n) ∧ New w w' []) := by
  have oA := hA.atB
  subst eA
  refine fn_enter (args := [.slice A (hs.length) (c)]) Try.func56 rfl Try.ntmps56 rfl (SS.start w) ?_
  refine cw_seq ?_
  refine cw_region ?_
  refine wl_v (ov_assign rfl) rfl rfl rfl ?_
  refine wl_nil ?_
  refine ce_then ?_
  refine cw_seq ?_
  refine cw_region ?_
  refine wl_v (ov_move rfl) rfl rfl rfl ?_
  refine wl_v (ov_move rfl) rfl rfl rfl ?_
  refine wl_v (ov_len (sliceI_spec sI29) rfl) rfl rfl rfl ?_
  refine wl_v (ov_move rfl) rfl rfl rfl ?_
  refine wl_v (ov_len (sliceI_spec sI29) rfl) rfl rfl rfl ?_
  refine wl_v (ov_slice_hm (h := hs.length) (mx := hs.length) sI29 tI22 rfl rfl rfl (Nat.le_refl _) lA) rfl rfl rfl ?_
  refine wl_v (ov_assign rfl) rfl rfl rfl ?_
  refine wl_nil ?_
  refine ce_then ?_
  refine cw_ret ?_
  refine ce_results (v := .slice A (hs.length) (hs.length)) (res1 rfl (rv_t rfl)) (fun w' hw => ?_)
  exact ⟨rfl, (Keep.nil.ss hw).to_new⟩
end Go.Proofs.Ytbdekdelieighab.W13
