/- From the reading of an argument to what the walks are told of it. Conditions: those of each theorem. -/
import Derived.Test.YtlgkooeflgmcaaaSz
import Derived.WalkKit
import Derived.ProofKit
import Derived.OpenShut
namespace Go.Sx
open Go.ChangeShapes Go.WideShapes Go.ChangeAt Go.RowKit
theorem at_of_one {α : Type} {f : α → Value} {w : World} {x : Addr} {xs : List α} (z : α) (h : ∀ i, i < xs.length → w.cell? (x.add i) = some (f (xs.getD i z))) : At w (some x) (cells (fun y => [f y]) xs) := by
  intro j u hu
  have e : cells (fun y => [f y]) xs = xs.map f := by clear hu h; unfold cells; induction xs <;> simp_all
  rw [e, List.getElem?_map] at hu
  refine ⟨x, rfl, ?_⟩
  by_cases hj : j < xs.length
  · rw [List.getElem?_eq_getElem hj] at hu
    have h1 := h j hj
    have e2 : xs.getD j z = xs[j] := by simp [hj]
    rw [e2] at h1; rw [h1]; simpa using hu
  · rw [List.getElem?_eq_none (by omega)] at hu; simp at hu
/-- a slice of integers that came in -/
theorem at_ints {w : World} {x : Addr} {len cap : Nat} {zs : List Int} (hl : len ≤ cap) (hz : zs.length = cap) (h : ∀ i, i < zs.length → w.cell? (x.add i) = some (.int .i64 (zs.getD i 0))) : At w (some x) (cells fI (zs.take len)) ∧ (zs.take len).length = len := by
  refine ⟨at_of_one (f := fun n => .int .i64 n) 0 fun i hi => ?_, by rw [List.length_take]; omega⟩
  rw [List.length_take] at hi
  rw [h i (by omega)]
  have : (zs.take len).getD i 0 = zs.getD i 0 := by simp only [List.getD_eq_getElem?_getD, List.getElem?_take]; rw [if_pos (by omega)]
  rw [this]
/-- a slice of bytes that came in -/
theorem at_bytes {w : World} {x : Addr} {len cap : Nat} {zs : List Int} (hl : len ≤ cap) (hz : zs.length = cap) (h : ∀ i, i < zs.length → w.cell? (x.add i) = some (.int .u8 (zs.getD i 0))) (hw : ∀ n ∈ zs, (Lit.int .u8 n).wf = true) :
    At w (some x) (cells fY ((zs.take len).map Int.toNat)) ∧ ((zs.take len).map Int.toNat).length = len ∧ ∀ y ∈ (zs.take len).map Int.toNat, y < 256 := by
  have hr : ∀ n ∈ zs, 0 ≤ n ∧ n ≤ 255 := fun n hn => by
    have h1 := hw n hn
    simp [Lit.wf, IntKind.min, IntKind.max, IntKind.signed, IntKind.bits] at h1
    omega
  refine ⟨at_of_one (f := fun n : Nat => .int .u8 (n : Int)) 0 fun i hi => ?_, by rw [List.length_map, List.length_take]; omega, fun y hy => ?_⟩
  · rw [List.length_map, List.length_take] at hi
    rw [h i (by omega)]
    have hm := hr (zs.getD i 0) (by rw [List.getD_eq_getElem?_getD, List.getElem?_eq_getElem (by omega)]; simp)
    have e : ((zs.take len).map Int.toNat).getD i 0 = (zs.getD i 0).toNat := by
      simp only [List.getD_eq_getElem?_getD, List.getElem?_map, List.getElem?_take]
      rw [if_pos (by omega), List.getElem?_eq_getElem (by omega)]; simp
    rw [e, Int.toNat_of_nonneg hm.1]
  · obtain ⟨n, hn, rfl⟩ := List.mem_map.1 hy
    have := hr n (List.mem_of_mem_take hn); omega
theorem at_nil {α : Type} {f : α → List Value} {w : World} {A : Option Addr} : At w A (cells f []) := by intro j u hu; simp [cells] at hu
/-- the end of a row's proof: what the call left -/
theorem calls_below {P : Program} {F : FuncId} {args : Array Value} {w : World} (h : Calls P F args w (Ret fun v w' => v = .bool true ∧ New w w' [])) : Calls P F args w (fun e w' => e = .returned (.bool true) ∧ Below w.heap.size w w') :=
  h.mono fun _ _ ⟨v, he, hv, hn⟩ => ⟨by rw [he, hv], hn.below⟩
end Go.Sx
