/- From the reading of an argument to what the walks are told of it. Conditions: those of each theorem. -/
import Derived.Test.YtkkllkkjdbpjpaaSz
import Derived.WalkKit
import Derived.ProofKit
import Derived.OpenShut
import Derived.Deep.SlicePairs
import Derived.Deep.Matrix
import Derived.Test.YtkkllkkjdbpjpaaSm
namespace Go.Sx
open Go.ChangeShapes Go.WideShapes Go.ChangeAt Go.RowKit
theorem at_of_one {α : Type} {f : α → Value} {w : World} {x : Addr} {xs : List α} (z : α) (h : ∀ i, i < xs.length → w.cell? (x.add i) = some (f (xs.getD i z))) : At w (some x) (cells (fun y => [f y]) xs) := by
  intro j u hu
  have e : cells (fun y => [f y]) xs = xs.map f := by clear hu h; unfold cells; induction xs <;> simp_all
  rw [e, List.getElem?_map] at hu
  refine ⟨x, rfl, ?_⟩
  by_cases hj : j < xs.length
  · rw [List.getElem?_eq_getElem hj] at hu
    have h1 := h j hj
    have e2 : xs.getD j z = xs[j] := by simp [hj]
    rw [e2] at h1; rw [h1]; simpa using hu
  · rw [List.getElem?_eq_none (by omega)] at hu; simp at hu
/-- a slice of integers that came in -/
theorem at_ints {w : World} {x : Addr} {len cap : Nat} {zs : List Int} (hl : len ≤ cap) (hz : zs.length = cap) (h : ∀ i, i < zs.length → w.cell? (x.add i) = some (.int .i64 (zs.getD i 0))) : At w (some x) (cells fI (zs.take len)) ∧ (zs.take len).length = len := by
  refine ⟨at_of_one (f := fun n => .int .i64 n) 0 fun i hi => ?_, by rw [List.length_take]; omega⟩
  rw [List.length_take] at hi
  rw [h i (by omega)]
  have : (zs.take len).getD i 0 = zs.getD i 0 := by simp only [List.getD_eq_getElem?_getD, List.getElem?_take]; rw [if_pos (by omega)]
  rw [this]
/-- a slice of bytes that came in -/
theorem at_bytes {w : World} {x : Addr} {len cap : Nat} {zs : List Int} (hl : len ≤ cap) (hz : zs.length = cap) (h : ∀ i, i < zs.length → w.cell? (x.add i) = some (.int .u8 (zs.getD i 0))) (hw : ∀ n ∈ zs, (Lit.int .u8 n).wf = true) :
    At w (some x) (cells fY ((zs.take len).map Int.toNat)) ∧ ((zs.take len).map Int.toNat).length = len ∧ ∀ y ∈ (zs.take len).map Int.toNat, y < 256 := by
  have hr : ∀ n ∈ zs, 0 ≤ n ∧ n ≤ 255 := fun n hn => by
    have h1 := hw n hn
    simp [Lit.wf, IntKind.min, IntKind.max, IntKind.signed, IntKind.bits] at h1
    omega
  refine ⟨at_of_one (f := fun n : Nat => .int .u8 (n : Int)) 0 fun i hi => ?_, by rw [List.length_map, List.length_take]; omega, fun y hy => ?_⟩
  · rw [List.length_map, List.length_take] at hi
    rw [h i (by omega)]
    have hm := hr (zs.getD i 0) (by rw [List.getD_eq_getElem?_getD, List.getElem?_eq_getElem (by omega)]; simp)
    have e : ((zs.take len).map Int.toNat).getD i 0 = (zs.getD i 0).toNat := by
      simp only [List.getD_eq_getElem?_getD, List.getElem?_map, List.getElem?_take]
      rw [if_pos (by omega), List.getElem?_eq_getElem (by omega)]; simp
    rw [e, Int.toNat_of_nonneg hm.1]
  · obtain ⟨n, hn, rfl⟩ := List.mem_map.1 hy
    have := hr n (List.mem_of_mem_take hn); omega
theorem at_nil {α : Type} {f : α → List Value} {w : World} {A : Option Addr} : At w A (cells f []) := by intro j u hu; simp [cells] at hu
def numV (v : Value) : Int := match v with | .int _ n => n | _ => 0
theorem at_pairs {w : World} {x : Addr} {zs : List (Int × Int)} (h0 : ∀ i, i < zs.length → w.cell? (x.add (i * 2)) = some (.int .i64 (zs.getD i (0, 0)).1)) (h1 : ∀ i, i < zs.length → w.cell? (x.add (i * 2 + 1)) = some (.int .i64 (zs.getD i (0, 0)).2)) : At w (some x) (cells fE zs) := by
  intro j u hu
  refine ⟨x, rfl, ?_⟩
  have hlen : (cells fE zs).length = zs.length * 2 := cells_length fE_len
  have hj : j < zs.length * 2 := by
    by_cases hj : j < zs.length * 2
    · exact hj
    · rw [List.getElem?_eq_none (by omega)] at hu; cases hu
  rcases Nat.mod_two_eq_zero_or_one j with hm | hm
  · have e : j = j / 2 * 2 + 0 := by omega
    rw [e, get_fE0 (by omega)] at hu
    rw [e, Nat.add_zero, h0 _ (by omega)]; exact hu
  · have e : j = j / 2 * 2 + 1 := by omega
    rw [e, get_fE1 (by omega)] at hu
    rw [e, h1 _ (by omega)]; exact hu
/-- a graph that came in -/
theorem opened_graph {H : Type} {enc : TypeId × Value → H} {P : Program} {w : World} {base : Nat} {spare : Nat → Bool} {held : Bool} {r : Reach} {b0 : Nat} {t e : TypeId} {f0 f1 g0 g1 : Field} {v : Value} {d : DataW H} {ps : List MemPlace}
    (ht : P.underlying t = some (.struct #[f0, f1])) (o0 : f0.offset = 0) (o1 : f1.offset = 1) (hc : P.cellsOf t = 2) (c0 : P.cellsOf f0.type = 1) (c1 : P.cellsOf f1.type = 1) (t0 : P.underlying f0.type = some (.int .i64))
    (hs : P.underlying f1.type = some (.slice e)) (he : P.underlying e = some (.struct #[g0, g1])) (ce : P.cellsOf e = 2) (p0 : g0.offset = 0) (p1 : g1.offset = 1) (q0 : P.cellsOf g0.type = 1) (q1 : P.cellsOf g1.type = 1) (i0 : P.underlying g0.type = some (.int .i64)) (i1 : P.underlying g1.type = some (.int .i64))
    (hval : Value.okWide P w r b0 t v) (h : ∃ fuel, DataW.trod enc P w base spare held fuel t v.cells.toList = some (d, ps)) :
    ∃ (N : Int) (A : Option Addr) (len cap : Nat) (zs : List (Int × Int)), v = .agg #[.int .i64 N, .slice A len cap] ∧ At w A (cells fE zs) ∧ zs.length = len ∧ len ≤ cap ∧ (-9223372036854775808 ≤ N ∧ N ≤ 9223372036854775807) ∧ len ≤ 9223372036854775807 := by
  obtain ⟨cs, rfl, hcs⟩ := okWide_struct ht hval
  obtain ⟨fuel, hf⟩ := h
  rcases cs with ⟨cs⟩
  rw [hc] at hcs
  simp only [List.size_toArray] at hcs
  match cs, hcs with
  | [v0, v1], _ =>
    have hcl : (Value.agg #[v0, v1]).cells.toList = [v0, v1] := rfl
    rw [hcl] at hf
    obtain ⟨y0, y1, n, _, _, h0, h1⟩ := Go.ChangeShapes.trod_struct2 ht hf
    rw [o0, c0] at h0
    rw [o1, c1] at h1
    simp only [List.drop_zero, List.take_succ_cons, List.take_zero, List.drop_succ_cons] at h0 h1
    obtain ⟨N, hN, _, hw⟩ := DataW.trod_int t0 h0
    simp only [List.cons.injEq, and_true] at hN
    subst hN
    have hNb : -9223372036854775808 ≤ N ∧ N ≤ 9223372036854775807 := by
      simp [Lit.wf, IntKind.min, IntKind.max, IntKind.signed, IntKind.bits] at hw; omega
    rcases Go.Deep.open_slice_pairs hs he ce p0 p1 q0 q1 h1 with ⟨h2, _⟩ | ⟨a, len, cap, m, k, V0, V1, D0, D1, P0, P1, h2, _, hl, hm, hmm, _, hx⟩
    · simp only [List.cons.injEq, and_true] at h2
      subst h2
      exact ⟨N, none, 0, 0, [], rfl, at_nil, rfl, Nat.le_refl _, hNb, by omega⟩
    · simp only [List.cons.injEq, and_true] at h2
      subst h2
      have hlm : len ≤ m := by rw [hmm]; split <;> omega
      refine ⟨N, some a, len, cap, (List.range len).map fun i => (numV (V0 i), numV (V1 i)), rfl, at_pairs (fun i hi => ?_) (fun i hi => ?_), by simp, hl, hNb, by simp only [maxLen] at hm; omega⟩
      all_goals
        have hi' : i < len := by simpa using hi
        have e : ((List.range len).map fun i => (numV (V0 i), numV (V1 i))).getD i (0, 0) = (numV (V0 i), numV (V1 i)) := by simp [List.getD_eq_getElem?_getD, hi']
        obtain ⟨x0, x1, x2, x3⟩ := hx i (by omega)
        obtain ⟨n0, z0, _, _⟩ := DataW.trod_int i0 x2
        obtain ⟨n1, z1, _, _⟩ := DataW.trod_int i1 x3
        simp only [List.cons.injEq, and_true] at z0 z1
        rw [e]
      · rw [x0, z0]; rfl
      · rw [x1, z1]; rfl
/-- a matrix that came in -/
theorem opened_matrix {H : Type} {enc : TypeId × Value → H} {P : Program} {w : World} {base : Nat} {held : Bool} {t e q : TypeId} {A : Option Addr} {len cap : Nat} {d : DataW H} {ps : List MemPlace}
    (ht : P.underlying t = some (.slice e)) (he : P.underlying e = some (.slice q)) (hq : P.underlying q = some (.int .i64)) (ce : P.cellsOf e = 1) (cq : P.cellsOf q = 1)
    (h : ∃ fuel, DataW.trod enc P w base (fun _ => true) held fuel t (Value.slice A len cap).cells.toList = some (d, ps)) :
    ∃ (hs : List Hd) (zss : List (List Int)), At w A (cells fL hs) ∧ zss.length = len ∧ len ≤ cap ∧ NestF hs zss ∧ Mx w hs zss ∧ len ≤ 9223372036854775807 ∧ ∀ r ∈ zss, r.length ≤ 9223372036854775807 ∧ ∀ x ∈ r, -9223372036854775808 ≤ x ∧ x ≤ 9223372036854775807 := by
  obtain ⟨fuel, hf⟩ := h
  rcases Go.Deep.open_int_rows ht he hq ce cq hf with ⟨h2, _⟩ | ⟨a, l, c, B, L, C, Z, h2, _, hl, hm, _, hx⟩
  · simp [Value.cells] at h2
    obtain ⟨rfl, rfl, rfl⟩ := h2
    exact ⟨[], [], at_nil, rfl, Nat.le_refl _, ⟨rfl, fun i hi => absurd hi (Nat.not_lt_zero _)⟩, fun i hi => absurd hi (Nat.not_lt_zero _), by omega, fun r hr => by cases hr⟩
  · simp [Value.cells] at h2
    obtain ⟨rfl, rfl, rfl⟩ := h2
    have g1 : ∀ i, i < len → ((List.range len).map fun r => ((B r, L r, C r) : Hd)).getD i (none, 0, 0) = (B i, L i, C i) := fun i hi => by simp [List.getD_eq_getElem?_getD, hi]
    have g2 : ∀ i, i < len → ((List.range len).map fun r => (Z r).take (L r)).getD i [] = (Z i).take (L i) := fun i hi => by simp [List.getD_eq_getElem?_getD, hi]
    have hlz : ∀ i, i < len → ((Z i).take (L i)).length = L i := fun i hi => by
      obtain ⟨_, h3, _, h4, _⟩ := hx i (by omega)
      rw [List.length_take]; omega
    refine ⟨(List.range len).map fun r => (B r, L r, C r), (List.range len).map fun r => (Z r).take (L r), ?_, by simp, hl, ⟨by simp, fun i hi => ?_⟩, fun i hi => ?_, by simp only [maxLen] at hm; omega, fun r hr => ?_⟩
    · refine at_of_one (f := fun y : Hd => Value.slice y.1 y.2.1 y.2.2) (none, 0, 0) fun i hi => ?_
      have hi' : i < len := by simpa using hi
      rw [g1 i hi']; exact (hx i (by omega)).1
    · have hi' : i < len := by simpa using hi
      rw [g1 i hi', g2 i hi', hlz i hi']
      exact ⟨rfl, (hx i (by omega)).2.1⟩
    · have hi' : i < len := by simpa using hi
      rw [g1 i hi', g2 i hi']
      obtain ⟨_, h3, _, h4, _, h6, h7⟩ := hx i (by omega)
      show At w (B i) (cells fI ((Z i).take (L i)))
      rcases hB : B i with _ | b
      · have : L i = 0 := by have := h6 hB; omega
        rw [this]; exact at_nil
      · exact (at_ints h3 h4 fun j hj => (h7 b hB).2 j (by omega)).1
    · obtain ⟨i, hi, rfl⟩ := List.mem_map.1 hr
      have hi' := List.mem_range.1 hi
      obtain ⟨_, h3, h8, h4, h5, _⟩ := hx i (by omega)
      refine ⟨by rw [hlz i hi']; simp only [maxLen] at h8; omega, fun x hxx => ?_⟩
      have := h5 x (List.mem_of_mem_take hxx)
      simp [Lit.wf, IntKind.min, IntKind.max, IntKind.signed, IntKind.bits] at this; omega
/-- the end of a row's proof: what the call left -/
theorem calls_below {P : Program} {F : FuncId} {args : Array Value} {w : World} (h : Calls P F args w (Ret fun v w' => v = .bool true ∧ New w w' [])) : Calls P F args w (fun e w' => e = .returned (.bool true) ∧ Below w.heap.size w w') :=
  h.mono fun _ _ ⟨v, he, hv, hn⟩ => ⟨by rw [he, hv], hn.below⟩
end Go.Sx
