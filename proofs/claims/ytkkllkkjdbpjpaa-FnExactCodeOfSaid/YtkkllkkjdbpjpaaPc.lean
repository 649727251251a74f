/- Composing degrees: a split graph around a graph. No program in sight. Conditions: those of each theorem. -/
import Derived.Test.YtkkllkkjdbpjpaaPh
namespace Go.Plain
def CompP (ks ss ds : List Int) : Prop := (Valid (ks ++ ss) ∧ GraphicP (ks ++ ss)) ∧ (Valid ds ∧ GraphicP ds) ∧ ks.length + ss.length + ds.length ≤ 7 ∧ total ks = total ss + (ks.length : Int) * ((ks.length : Int) - 1) ∧ (∀ x ∈ ks, (ks.length : Int) - 1 ≤ x) ∧ (∀ x ∈ ss, x ≤ (ks.length : Int))
instance (ks ss ds : List Int) : Decidable (CompP ks ss ds) := by unfold CompP; exact inferInstance
def upBy (m : Nat) (xs : List Int) : List Int := xs.map fun x => x + (m : Int)
theorem upBy_length (m : Nat) (xs : List Int) : (upBy m xs).length = xs.length := List.length_map ..
theorem upBy_take {m : Nat} {xs : List Int} {k : Nat} (h : k < xs.length) : upBy m (xs.take (k + 1)) = upBy m (xs.take k) ++ [xs.getD k 0 + (m : Int)] := by
  rw [take_succ 0 h, upBy, List.map_append]; rfl
def compL (ks ss ds : List Int) : List Int := upBy ds.length ks ++ upBy ks.length ds ++ ss
theorem compL_length (ks ss ds : List Int) : (compL ks ss ds).length = ks.length + ds.length + ss.length := by
  rw [compL, List.length_append, List.length_append, upBy_length, upBy_length]
def compV (ks ss ds : List Int) : List Int × Bool := if CompP ks ss ds then (compL ks ss ds, true) else ([], false)
theorem compV_len (ks ss ds : List Int) : (compV ks ss ds).1.length ≤ 7 := by
  unfold compV
  split
  · rename_i h
    show (compL ks ss ds).length ≤ 7
    rw [compL_length]; have := h.2.2.1; omega
  · exact Nat.zero_le _
theorem small_l {xs ys : List Int} (h : Small (xs ++ ys)) : Small xs := ⟨by have := h.1; rw [List.length_append] at this; omega, fun x hx => h.2 x (List.mem_append_left _ hx)⟩
theorem small_r {xs ys : List Int} (h : Small (xs ++ ys)) : Small ys := ⟨by have := h.1; rw [List.length_append] at this; omega, fun x hx => h.2 x (List.mem_append_right _ hx)⟩
theorem sq_bd : ∀ n : Nat, n ≤ 7 → 0 ≤ (n : Int) * ((n : Int) - 1) ∧ (n : Int) * ((n : Int) - 1) ≤ 42 := by decide
theorem top_fall {ys : List Int} (h : 0 < ys.length) (m : Int) : (fall ys).getD 0 0 ≤ m ↔ ∀ x ∈ ys, x ≤ m := by
  have hl := fall_length ys
  constructor
  · intro hm x hx
    obtain ⟨i, hi, rfl⟩ := List.mem_iff_getElem.1 (fall_mem.2 hx)
    have := sorted_get (fall_sorted ys) (i := 0) (j := i) (by omega) hi
    have e : (fall ys).getD i 0 = (fall ys)[i] := by simp [hi]
    omega
  · intro hm; exact hm _ (fall_mem.1 (getD_mem 0 (by omega)))
theorem least_step {xs : List Int} {k : Nat} {v : Int} (hk : k < xs.length) (h : ∀ m, m ≤ v ↔ m ≤ xs.getD 0 0 ∧ ∀ x ∈ xs.take k, m ≤ x) : ∀ m, m ≤ min v (xs.getD k 0) ↔ m ≤ xs.getD 0 0 ∧ ∀ x ∈ xs.take (k + 1), m ≤ x := fun m => by
  rw [take_succ 0 hk]
  constructor
  · intro hm
    have h1 := (h m).1 (by omega)
    refine ⟨h1.1, fun x hx => ?_⟩
    rcases List.mem_append.1 hx with h2 | h2
    · exact h1.2 x h2
    · simp only [List.mem_singleton] at h2; subst h2; omega
  · intro hm
    have h1 := (h m).2 ⟨hm.1, fun x hx => hm.2 x (List.mem_append_left _ hx)⟩
    have h2 := hm.2 (xs.getD k 0) (by simp)
    omega
theorem flat_step {xss : List (List Int)} {k : Nat} (h : k < xss.length) : (xss.take (k + 1)).flatten = (xss.take k).flatten ++ xss.getD k [] := by
  rw [take_succ [] h, List.flatten_append]; simp
theorem flat_bd {xss : List (List Int)} : ∀ k, (xss.take k).flatten.length ≤ xss.flatten.length := fun k => by
  have e : xss.flatten = (xss.take k).flatten ++ (xss.drop k).flatten := by rw [← List.flatten_append, List.take_append_drop]
  rw [e, List.length_append]; omega
end Go.Plain
