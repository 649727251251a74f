/- Deleting from lists; odd components without some vertices. No program in sight. Conditions: those of each theorem. -/
import Derived.Test.YtkkllkkjdbpjpaaPf
namespace Go.Plain
/-! ### deleting -/
section
variable {α : Type} {q : α → Bool} {xs ys : List α} {i j : Nat}
theorem getD_of_drop (z : α) (hj : j < xs.length) (hd : ys.drop j = xs.drop j) : ys.getD j z = xs.getD j z := by
  have h1 : (ys.drop j)[0]? = (xs.drop j)[0]? := by rw [hd]
  rw [List.getElem?_drop, List.getElem?_drop, Nat.add_zero] at h1
  rw [List.getD_eq_getElem?_getD, List.getD_eq_getElem?_getD, h1]
theorem drop_next (hd : ys.drop j = xs.drop j) : ys.drop (j + 1) = xs.drop (j + 1) := by
  have h1 : (ys.drop j).drop 1 = (xs.drop j).drop 1 := by rw [hd]
  rwa [List.drop_drop, List.drop_drop] at h1
theorem del_skip (z : α) (hj : j < xs.length) (ht : ys.take i = (xs.take j).filter q) (hd : ys.drop j = xs.drop j) (hp : q (ys.getD j z) = false) : ys.take i = (xs.take (j + 1)).filter q ∧ ys.drop (j + 1) = xs.drop (j + 1) := by
  refine ⟨?_, drop_next hd⟩
  rw [take_succ z hj, List.filter_append, ← ht, ← getD_of_drop z hj hd, List.filter_cons, if_neg (by rw [hp]; decide)]; simp
theorem del_keep (z : α) (hj : j < xs.length) (hl : ys.length = xs.length) (hij : i < j) (ht : ys.take i = (xs.take j).filter q) (hd : ys.drop j = xs.drop j) (hp : q (ys.getD j z) = true) : (ys.set i (ys.getD j z)).take (i + 1) = (xs.take (j + 1)).filter q ∧ (ys.set i (ys.getD j z)).drop (j + 1) = xs.drop (j + 1) := by
  refine ⟨?_, ?_⟩
  · rw [take_succ z (by rw [List.length_set]; omega), List.take_set_of_le (Nat.le_refl _), take_succ z hj, List.filter_append, ht, set_getD z _ (by omega), ← getD_of_drop z hj hd, List.filter_cons, if_pos hp]; rfl
  · rw [List.drop_set_of_lt (by omega)]; exact drop_next hd
theorem del_init (z : α) {k : Nat} (hk : k < xs.length) (h1 : ∀ x ∈ xs.take k, q x = true) (h2 : q (xs.getD k z) = false) : xs.take k = (xs.take (k + 1)).filter q := by
  rw [take_succ z hk, List.filter_append, List.filter_eq_self.2 h1, List.filter_cons, if_neg (by rw [h2]; decide)]; simp
theorem idxF_cases (z : α) (p : α → Bool) (xs : List α) : (idxF p xs = -1 ∧ ∀ x ∈ xs, p x = false) ∨ ∃ k : Nat, idxF p xs = (k : Int) ∧ k < xs.length ∧ p (xs.getD k z) = true ∧ ∀ x ∈ xs.take k, p x = false := by
  by_cases h : ∃ x ∈ xs, p x = true
  · right
    have ha : xs.any p = true := List.any_eq_true.2 h
    have hlt : xs.findIdx p < xs.length := List.findIdx_lt_length_of_exists h
    refine ⟨xs.findIdx p, by simp [idxF, ha], hlt, ?_, fun x hx => ?_⟩
    · rw [show xs.getD (xs.findIdx p) z = xs[xs.findIdx p] from by simp [hlt]]; exact List.findIdx_getElem (w := hlt)
    · obtain ⟨i, hi, rfl⟩ := List.mem_take_iff_getElem.1 hx
      exact List.not_of_lt_findIdx (by omega)
  · left
    have h2 : ∀ x ∈ xs, p x = false := fun x hx => by
      by_cases hc : p x = true
      · exact absurd ⟨x, hx, hc⟩ h
      · simpa using hc
    exact ⟨idxF_none h2, h2⟩
theorem filter_none {p : α → Bool} (h : ∀ x ∈ xs, p x = false) : xs.filter (fun x => !p x) = xs := List.filter_eq_self.2 fun x hx => by rw [h x hx]; rfl
theorem clear_tail (z : α) (hl : ys.length = xs.length) (hi : i ≤ xs.length) : ys.take i ++ List.replicate (xs.length - i) z ++ ys.drop (i + (List.replicate (xs.length - i) z).length) = ys.take i ++ List.replicate (xs.length - i) z := by
  rw [List.length_replicate, List.drop_of_length_le (by omega)]; simp
theorem take_cleared (z : α) (hl : ys.length = xs.length) (hi : i ≤ xs.length) (m : Nat) : (ys.take i ++ List.replicate m z).take i = ys.take i := by
  have : (ys.take i).length = i := by rw [List.length_take]; omega
  rw [List.take_append_of_le_length (by omega), List.take_of_length_le (by omega)]
end
/-! ### odd components -/
def touch (s : List Int) (e : Ed) : Bool := decide (e.1 ∈ s) || decide (e.2 ∈ s)
def woE (s : List Int) (es : List Ed) : List Ed := es.filter fun e => !touch s e
def woTo (s : List Int) (es : List Ed) (k : Nat) : List Ed := (es.take k).filter fun e => !touch s e
theorem woTo_succ_t {s : List Int} {es : List Ed} {k : Nat} (h : k < es.length) (h1 : (es.getD k (0, 0)).1 ∉ s) (h2 : (es.getD k (0, 0)).2 ∉ s) : woTo s es (k + 1) = woTo s es k ++ [es.getD k (0, 0)] := by
  have ht : touch s (es.getD k (0, 0)) = false := by unfold touch; rw [decide_eq_false h1, decide_eq_false h2]; rfl
  unfold woTo; rw [take_succ (0, 0) h, List.filter_append, List.filter_cons, if_pos (by rw [ht]; rfl)]; rfl
theorem woTo_succ_f {s : List Int} {es : List Ed} {k : Nat} (h : k < es.length) (h1 : (es.getD k (0, 0)).1 ∈ s ∨ (es.getD k (0, 0)).2 ∈ s) : woTo s es (k + 1) = woTo s es k := by
  have ht : touch s (es.getD k (0, 0)) = true := by
    unfold touch; rcases h1 with h1 | h1
    · rw [decide_eq_true h1]; rfl
    · rw [decide_eq_true h1]; exact Bool.or_true _
  unfold woTo; rw [take_succ (0, 0) h, List.filter_append, List.filter_cons, if_neg (by rw [ht]; decide)]; simp
theorem woTo_end {s : List Int} {es : List Ed} {k : Nat} (h : es.length ≤ k) : woTo s es k = woE s es := by unfold woTo woE; rw [List.take_of_length_le h]
theorem woTo_len (s : List Int) (es : List Ed) (k : Nat) : (woTo s es k).length ≤ es.length := by
  unfold woTo
  exact Nat.le_trans (List.length_filter_le _ _) (by rw [List.length_take]; omega)
theorem Gr.wo {n : Nat} {es : List Ed} (h : Gr n es) (s : List Int) : Gr n (woE s es) := h.filter _
def oddQ (s : List Int) (p : List Int) : Bool := decide (p.length % 2 = 1) && !decide (p.getD 0 0 ∈ s)
def oddTo (s : List Int) (L : List (List Int)) (k : Nat) : Int := (((L.take k).countP (oddQ s) : Nat) : Int)
def oddL (s : List Int) (L : List (List Int)) : Int := oddTo s L L.length
def oddP (m : Nat) (es : List Ed) (s : List Int) : Int := oddL s (compsL m (woE s es))
theorem oddTo_succ_t {s : List Int} {L : List (List Int)} {k : Nat} (h : k < L.length) (h1 : oddQ s (L.getD k []) = true) : oddTo s L (k + 1) = oddTo s L k + 1 := by
  unfold oddTo; rw [take_succ [] h, List.countP_append, List.countP_cons, if_pos h1, List.countP_nil]; omega
theorem oddTo_succ_f {s : List Int} {L : List (List Int)} {k : Nat} (h : k < L.length) (h1 : oddQ s (L.getD k []) = false) : oddTo s L (k + 1) = oddTo s L k := by
  unfold oddTo; rw [take_succ [] h, List.countP_append, List.countP_cons, if_neg (by rw [h1]; decide), List.countP_nil]; omega
theorem oddTo_bd (s : List Int) (L : List (List Int)) (k : Nat) : 0 ≤ oddTo s L k ∧ oddTo s L k ≤ L.length := by
  unfold oddTo
  have h1 := List.countP_le_length (p := oddQ s) (l := L.take k)
  rw [List.length_take] at h1; omega
theorem compsL_len (m : Nat) (es : List Ed) : (compsL m es).length ≤ m := comps_len m es m
theorem comps_getD {m : Nat} {es : List Ed} {k : Nat} (h : k < (compsL m es).length) : ((compsL m es).getD k []).length ≤ m ∧ 0 < ((compsL m es).getD k []).length := by
  have := comps_part (n := m) (es := es) (p := (compsL m es).getD k []) (by rw [List.getD_eq_getElem?_getD, List.getElem?_eq_getElem h]; exact List.getElem_mem h)
  exact ⟨this.1, this.2.1⟩
/-- the numbers are vertices, ascending -/
def okS (W : Int) (s : List Int) (i : Nat) : Prop := 0 ≤ s.getD i 0 ∧ s.getD i 0 ≤ W ∧ (0 < i → s.getD (i - 1) 0 < s.getD i 0)
instance (W : Int) (s : List Int) (i : Nat) : Decidable (okS W s i) := by unfold okS; exact inferInstance
def SetP (W : Int) (s : List Int) : Prop := ∀ i, i < s.length → okS W s i
instance (W : Int) (s : List Int) : Decidable (SetP W s) := by unfold SetP; exact inferInstance
def oddV (N : Int) (es : List Ed) (s : List Int) : Int := if ValidG N es ∧ SetP (N - 1) s then oddP N.toNat es s else -1
theorem SetP.len {W : Int} {s : List Int} (h : SetP W s) (hW : W ≤ 6) : s.length ≤ 7 := by
  have key : ∀ i, i < s.length → (i : Int) ≤ s.getD i 0 := by
    intro i
    induction i with
    | zero => intro hi; have := (h 0 hi).1; omega
    | succ i ih =>
      intro hi
      have h1 := ih (by omega); have h2 := (h (i + 1) hi).2.2 (by omega)
      rw [Nat.add_sub_cancel] at h2; omega
  rcases Nat.eq_zero_or_pos s.length with h0 | h0
  · omega
  · have h1 := key (s.length - 1) (by omega)
    have h2 := (h (s.length - 1) (by omega)).2.1
    omega
end Go.Plain
