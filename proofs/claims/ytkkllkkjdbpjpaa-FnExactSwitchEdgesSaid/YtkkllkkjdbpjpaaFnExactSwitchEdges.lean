/- 'FnExactSwitchEdges' returns true for every input and leaves its arguments as they were. Conditions: none. -/
import Derived.Test.YtkkllkkjdbpjpaaRows
import Derived.Test.YtkkllkkjdbpjpaaRk
import Derived.Test.YtkkllkkjdbpjpaaLFnExactSwitchEdges
import Derived.WalkKit
import Derived.ProofKit
import Derived.OpenShut
import Derived.ShutString
import Derived.ChangeOld
import Derived.Below
import Derived.Lib.SmallJoins
import Derived.Deep.SlicePairs
namespace Go.Proofs.Ytkkllkkjdbpjpaa.fnExactSwitchEdges
open Go.ChangeShapes Go.WideShapes Go.ChangeAt Go.RowKit Go.Sx Go.Joins Go.Deep Go.Proofs.Ytkkllkkjdbpjpaa.LFnExactSwitchEdges
open Go.ChangeMaps (open_string shut_string)

theorem own : ownKnob Try.prog.godebug = none := by kernel_rfl
theorem laidOut : laidOutB Try.prog = true := by kernel_rfl
set_option maxRecDepth 100000 in
theorem lifted (os : Os) (started : os.Started) (H : Type) (enc : TypeId × Value → H) :
    ReturnsInHanded {} Try.checked os 6 .any (Rows.fnExactSwitchEdgesSpec.pre6 enc Try.prog Try.f6 Rows.fnExactSwitchEdgesRow.domain false) (Rows.fnExactSwitchEdgesSpec.post enc Try.prog Try.f6 false true false false) := by
  refine returnsInHanded_of_change (C := Try.checked) own started (by kernel_rfl) Try.func6
    (ChangeSpec.witness6 (enc := enc) (C := Try.checked) false ⟨#[], #[.agg #[.int .i64 0, .slice none 0 0], .agg #[.int .i64 0, .int .i64 0, .int .i64 0, .int .i64 0]], []⟩ 8 (by kernel_rfl) (by kernel_rfl) (by kernel_rfl) (by kernel_rfl)) ?_
  intro W base args ds gs before hval0 hW hcnd _
  have hval : ∀ (j : Nat) t v, Try.f6.params[j]? = some t → args[j]? = some v → Value.okWide Try.prog W .any base t v := hval0
  have hW' := hW
  obtain ⟨p, q, hA0, hV, rfl, hfz, hnd⟩ := hW
  have hA : DataW.TrodAll enc Try.prog W 0 (fun _ => true) true Try.f6.params.toList args.toList ds p := hA0
  rw [Try.params6] at hA hval
  obtain ⟨v0, vs0, d0, ds0, p0, q0, hargs, rfl, rfl, h0, r0⟩ := trodAll_cons hA
  obtain ⟨v1, vs1, d1, ds1, p1, q1, rfl, rfl, rfl, h1, r1⟩ := trodAll_cons r0
  obtain ⟨rfl, rfl, rfl⟩ := trodAll_nil r1
  obtain rfl : args = #[v0, v1] := by cases args; simp_all
  obtain ⟨rfl, rfl⟩ := trodVars_none hV
  have k0 := h0
  have lt0 : ∀ x ∈ p0, x.block < W.heap.size := by obtain ⟨m, hm⟩ := k0; exact DataW.trod_lt m _ _ _ hm
  obtain ⟨N0, a0, len0, cap0, z0, rfl, at0, el0, le0, hN0, hn0⟩ := opened_graph (w := W) Try.underlying36 rfl rfl (by kernel_rfl) (by kernel_rfl) (by kernel_rfl) Try.underlying3 Try.underlying34 Try.underlying112 (by kernel_rfl) rfl rfl (by kernel_rfl) (by kernel_rfl) Try.underlying3 Try.underlying3 (hval 0 36 v0 rfl rfl) h0
  have k1 := h1
  have lt1 : ∀ x ∈ p1, x.block < W.heap.size := by obtain ⟨m, hm⟩ := k1; exact DataW.trod_lt m _ _ _ hm
  obtain ⟨u10, u11, u12, u13, y10, y11, y12, y13, n1, hv1, _, _, e10, e11, e12, e13⟩ := open_agg4 Try.underlying52 (by kernel_rfl) (by kernel_rfl) (hval 1 52 v1 rfl rfl) h1
  obtain ⟨s10, z10, _, _⟩ := DataW.trod_int Try.underlying3 e10
  simp only [List.cons.injEq, and_true] at z10
  subst z10
  obtain ⟨s11, z11, _, _⟩ := DataW.trod_int Try.underlying3 e11
  simp only [List.cons.injEq, and_true] at z11
  subst z11
  obtain ⟨s12, z12, _, _⟩ := DataW.trod_int Try.underlying3 e12
  simp only [List.cons.injEq, and_true] at z12
  subst z12
  obtain ⟨s13, z13, _, _⟩ := DataW.trod_int Try.underlying3 e13
  simp only [List.cons.injEq, and_true] at z13
  subst z13
  subst hv1
  clear hA0 hval0
  refine (calls_below (FnExactSwitchEdges_c W N0 a0 len0 cap0 z0 s10 s11 s12 s13 at0 el0 le0 hN0 hn0)).mono fun e W' ⟨he, bel⟩ => ?_
  subst he
  exact ⟨_, rfl, _, _, _, [], _, [], hW', trodAll_mk1 (shut_bool Try.underlying4 _), (trodAll_cons_mk (Below.trod laidOut (by kernel_rfl) (of_decide_eq_true (by kernel_rfl)) k0 bel lt0) (trodAll_cons_mk (Below.trod laidOut (by kernel_rfl) (of_decide_eq_true (by kernel_rfl)) k1 bel lt1) trodAll_mk0)), rfl, bel.frame _, fun h => by cases h⟩

theorem over : Rows.fnExactSwitchEdgesRow.holds Try.pinned (OpenSpec.ofChange Rows.fnExactSwitchEdgesSpec) :=
  OpenClaim.holds_of_wide 6 Try.f6 rfl rfl rfl rfl rfl rfl rfl ⟨rfl, rfl, rfl, rfl, rfl⟩ rfl rfl rfl rfl rfl (by kernel_rfl) Try.func6 (by kernel_rfl)
    (of_decide_eq_true (by kernel_rfl)) (by unfold Func.isWrapper; first | (rw [if_pos (by decide +kernel)]; kernel_rfl) | (rw [if_neg (by decide +kernel)]; exact ⟨rfl, rfl⟩))
    (fun os started H enc _ => lifted os started H enc)

/-- the statement -/
theorem proved : Rows.FnExactSwitchEdgesSaid := over
end Go.Proofs.Ytkkllkkjdbpjpaa.fnExactSwitchEdges
