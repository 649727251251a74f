/- The library's sort of integers, in the small logic: the kit's contract, told of an owned row. Conditions: those of each theorem. -/
import Derived.Test.YthbfgkeoojghoaaSy
import Derived.Test.YthbfgkeoojghoaaPd
import Derived.Sort.Grow
namespace Go.Sx
open Go.RowKit Go.Plain
/-- the kit's contract of slices.Sort at integers -/
def SortC (P : Program) (F : FuncId) : Prop := (∀ (blk off cap : Nat) (zs : List Int) (w : World), Go.Sort.Holds (Value.int .i64) w blk off zs.toArray → blk < w.heap.size → zs.length < 4611686018427387904 →
  Calls P F #[.slice (some ⟨blk, off, none⟩) zs.length cap] w fun e w' => e = .returned (.tuple #[]) ∧ ∃ n os, w' = Go.Sort.grow (Go.Sort.putRow (Value.int .i64) (Go.Sort.ahead w n) blk off (zs.mergeSort fun x y => decide (x ≤ y)).toArray) os) ∧
  ∀ (cap : Nat) (w : World), Calls P F #[.slice none 0 cap] w fun e w' => e = .returned (.tuple #[]) ∧ w' = w
theorem putCells_row (cur : List Value) (ys : List Int) (hl : ys.length ≤ cur.length) : ((Go.Sort.putCells (Value.int .i64) 0 ys.toArray cur.toArray).toList.length = cur.length) ∧ (Go.Sort.putCells (Value.int .i64) 0 ys.toArray cur.toArray).toList.take ys.length = cells fI ys := by
  constructor
  · simp [Go.Sort.putCells]
  · apply List.ext_getElem?
    intro j
    have e : cells fI ys = ys.map (Value.int .i64) := by unfold cells fI; clear hl; induction ys <;> simp_all
    rw [e, List.getElem?_take]
    by_cases hj : j < ys.length
    · rw [if_pos hj]
      simp only [Go.Sort.putCells, Array.getElem?_toList, Array.getElem?_mapIdx, List.getElem?_toArray, List.getElem?_map]
      rw [List.getElem?_eq_getElem (by omega : j < cur.length), List.getElem?_eq_getElem hj]
      simp [hj]
    · rw [if_neg hj, List.getElem?_eq_none (by simpa using hj)]
theorem sort_row {P : Program} {F : FuncId} (hS : SortC P F) (w w0 : World) (Bd : Nat) (Fr : List Ent) (e : TypeId) (A : Option Addr) (n c cv : Nat) (xs : List Int) (eA : xs.length = n) (hn : n ≤ 1000000000) (hss : SS w0 Bd (row e 1 A n c (cells fI xs) :: Fr) w) :
    Calls P F #[.slice A n cv] w (Ret fun rv w' => rv = .tuple #[] ∧ SS w0 Bd (row e 1 A n c (cells fI (asc xs)) :: Fr) w') := by
  subst eA
  obtain ⟨h3, h4, h5, ⟨rfl, rfl⟩ | ⟨g, cur, rfl, hg, hcl, ht⟩⟩ := hss.hp.1
  · have h0 : xs = [] := by
      have : xs.length = 0 := by omega
      exact List.length_eq_zero_iff.1 this
    subst h0
    refine (hS.2 cv w).mono fun en w' ⟨he, hw⟩ => ⟨_, he, rfl, ?_⟩
    subst hw
    have e0 : asc [] = [] := by simp [asc]
    rw [e0]; exact hss
  · have hlt : g < w.heap.size := (hss.hp.2.1 g ⟨_, rfl, rfl⟩).2
    have hxl : xs.length ≤ cur.length := by omega
    have hH : Go.Sort.Holds (Value.int .i64) w g 0 xs.toArray := by
      intro j hj
      have hj' : j < xs.length := by simpa using hj
      constructor
      · have h1 : cur[j]? = some (.int .i64 xs[j]) := by
          have h2 := congrArg (fun l => l[j]?) ht
          simp only [Nat.mul_one, List.getElem?_take, if_pos hj'] at h2
          rw [h2]
          have := get_fI (xs := xs) hj'
          rw [Nat.mul_one] at this
          rw [this]; simp [hj']
        simp only [World.cell?, hg]
        simp [h1, hj']
      · simp [World.frozen?, hg]
    refine (hS.1 g 0 cv xs w hH hlt (by omega)).mono fun en w' ⟨he, k, os, hw⟩ => ⟨_, he, rfl, ?_⟩
    subst hw
    have hal : (xs.mergeSort fun x y => decide (x ≤ y)).length = xs.length := asc_length xs
    have hpc := putCells_row cur (asc xs) (by rw [asc_length]; omega)
    have hheap : (Go.Sort.grow (Go.Sort.putRow (Value.int .i64) (Go.Sort.ahead w k) g 0 (xs.mergeSort fun x y => decide (x ≤ y)).toArray) os).heap = w.heap.modify g (Go.Sort.onCells (Go.Sort.putCells (Value.int .i64) 0 (asc xs).toArray)) ++ os := rfl
    refine hss.upd rfl rfl rfl (by rw [hheap]; simp) (fun q hq hf => ?_) ⟨by rw [cells_length fI_len, asc_length], h4, h5, .inr ⟨g, (Go.Sort.putCells (Value.int .i64) 0 (asc xs).toArray cur.toArray).toList, rfl, ?_, by rw [hpc.1]; exact hcl, ?_⟩⟩ fun q hq => ⟨.inl hq, ?_⟩
    · have hne : ¬ g = q := fun h => hf ⟨_, rfl, h.symm⟩
      rw [hheap, Array.getElem?_append_left (by simpa using hq), Array.getElem?_modify, if_neg hne]
    · rw [hheap, Array.getElem?_append_left (by simpa using hlt), Array.getElem?_modify, if_pos rfl, hg]
      rfl
    · have := hpc.2
      rw [asc_length] at this
      rw [Nat.mul_one]; exact this
    · obtain ⟨a, ha, rfl⟩ := hq
      injection ha with ha; subst ha
      rw [hheap]; simp; omega
end Go.Sx
