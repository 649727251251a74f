/- The library's sort of structs, in the small logic: a contract told of an owned row. Conditions: those of each theorem. -/
import Derived.Test.YtkkllkkjdbpjpaaSy
import Derived.Test.YtkkllkkjdbpjpaaPa
import Derived.Sort.Grow
namespace Go.Sx
open Go.RowKit Go.Plain
/-- a sort of rows of structs by the function G -/
def SortV {α : Type} (P : Program) (F G : FuncId) (f : α → List Value) (ok : List α → Prop) (srt : List α → List α → Prop) : Prop :=
  (∀ (blk off cap : Nat) (zs : List α) (w : World), ok zs → Go.Sort.Holds id w blk off (cells f zs).toArray → blk < w.heap.size → zs.length < 4611686018427387904 →
    Calls P F #[.slice (some ⟨blk, off, none⟩) zs.length cap, .func (.func G) #[] #[]] w fun e w' => e = .returned (.tuple #[]) ∧ ∃ ys n os, srt zs ys ∧ ys.length = zs.length ∧ w' = Go.Sort.grow (Go.Sort.putRow id (Go.Sort.ahead w n) blk off (cells f ys).toArray) os) ∧
  (∀ (cap : Nat) (w : World), Calls P F #[.slice none 0 cap, .func (.func G) #[] #[]] w fun e w' => e = .returned (.tuple #[]) ∧ w' = w) ∧ srt [] []
theorem putCells_rowV (cur vs : List Value) (hl : vs.length ≤ cur.length) : ((Go.Sort.putCells id 0 vs.toArray cur.toArray).toList.length = cur.length) ∧ (Go.Sort.putCells id 0 vs.toArray cur.toArray).toList.take vs.length = vs := by
  constructor
  · simp [Go.Sort.putCells]
  · apply List.ext_getElem?
    intro j
    rw [List.getElem?_take]
    by_cases hj : j < vs.length
    · rw [if_pos hj]
      simp only [Go.Sort.putCells, Array.getElem?_toList, Array.getElem?_mapIdx, List.getElem?_toArray]
      rw [List.getElem?_eq_getElem (by omega : j < cur.length), List.getElem?_eq_getElem hj]
      simp [hj]
    · rw [if_neg hj, List.getElem?_eq_none (by omega)]
theorem sortV_row {α : Type} {P : Program} {F G : FuncId} {f : α → List Value} {sz : Nat} {ok : List α → Prop} {srt : List α → List α → Prop} (hS : SortV P F G f ok srt) (hf : ∀ x, (f x).length = sz) (w w0 : World) (Bd : Nat) (Fr : List Ent) (e : TypeId) (A : Option Addr) (n c cv : Nat) (xs : List α) (eA : xs.length = n) (hok : ok xs) (hn : n ≤ 1000000000) (hsz : 0 < sz) (hss : SS w0 Bd (row e sz A n c (cells f xs) :: Fr) w) :
    Calls P F #[.slice A n cv, .func (.func G) #[] #[]] w (Ret fun rv w' => ∃ ys, (srt xs ys ∧ ys.length = n) ∧ rv = .tuple #[] ∧ SS w0 Bd (row e sz A n c (cells f ys) :: Fr) w') := by
  subst eA
  obtain ⟨h3, h4, h5, ⟨rfl, rfl⟩ | ⟨g, cur, rfl, hg, hcl, ht⟩⟩ := hss.hp.1
  · have h0 : xs = [] := List.length_eq_zero_iff.1 (by omega)
    subst h0
    refine (hS.2.1 cv w).mono fun en w' ⟨he, hw⟩ => ⟨_, he, [], ⟨hS.2.2, rfl⟩, rfl, ?_⟩
    subst hw; exact hss
  · have hlt : g < w.heap.size := (hss.hp.2.1 g ⟨_, rfl, rfl⟩).2
    have hcn : (cells f xs).length = xs.length * sz := cells_length hf
    have hxl : xs.length * sz ≤ cur.length := by rw [hcl]; exact Nat.mul_le_mul_right _ h4
    have hH : Go.Sort.Holds id w g 0 (cells f xs).toArray := by
      intro j hj
      have hj' : j < (cells f xs).length := by simpa using hj
      constructor
      · have h1 : cur[j]? = some (cells f xs)[j] := by
          have h2 := congrArg (fun l => l[j]?) ht
          simp only [List.getElem?_take] at h2
          rw [if_pos (by omega)] at h2
          rw [h2, List.getElem?_eq_getElem hj']
        simp only [World.cell?, hg]
        simp [h1, hj']
      · simp [World.frozen?, hg]
    refine (hS.1 g 0 cv xs w hok hH hlt (by omega)).mono fun en w' ⟨he, ys, k, os, hsrt, hyl, hw⟩ => ⟨_, he, ys, ⟨hsrt, hyl⟩, rfl, ?_⟩
    subst hw
    have hyn : (cells f ys).length = xs.length * sz := by rw [cells_length hf, hyl]
    have hpc := putCells_rowV cur (cells f ys) (by omega)
    have hheap : (Go.Sort.grow (Go.Sort.putRow id (Go.Sort.ahead w k) g 0 (cells f ys).toArray) os).heap = w.heap.modify g (Go.Sort.onCells (Go.Sort.putCells id 0 (cells f ys).toArray)) ++ os := rfl
    refine hss.upd rfl rfl rfl (by rw [hheap]; simp) (fun q hq hfq => ?_) ⟨by rw [cells_length hf, hyl], h4, h5, .inr ⟨g, (Go.Sort.putCells id 0 (cells f ys).toArray cur.toArray).toList, rfl, ?_, by rw [hpc.1]; exact hcl, ?_⟩⟩ fun q hq => ⟨.inl hq, ?_⟩
    · have hne : ¬ g = q := fun h => hfq ⟨_, rfl, h.symm⟩
      rw [hheap, Array.getElem?_append_left (by simpa using hq), Array.getElem?_modify, if_neg hne]
    · rw [hheap, Array.getElem?_append_left (by simpa using hlt), Array.getElem?_modify, if_pos rfl, hg]
      rfl
    · have := hpc.2
      rw [hyn] at this
      exact this
    · obtain ⟨a, ha, rfl⟩ := hq
      injection ha with ha; subst ha
      rw [hheap]; simp; omega
end Go.Sx
