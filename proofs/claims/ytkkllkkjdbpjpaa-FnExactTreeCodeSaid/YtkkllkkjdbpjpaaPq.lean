/- The tree of a code, as both sides build it. No program in sight. Conditions: those of each theorem. -/
import Derived.Test.YtkkllkkjdbpjpaaPj
import Derived.Test.YtkkllkkjdbpjpaaPr
namespace Go.Plain
/-- numbers that are the code of a tree -/
def TCP (xs : List Int) : Prop := (∀ x ∈ xs, 0 ≤ x ∧ x ≤ (xs.length : Int) + 1) ∧ xs.length + 2 ≤ 7
instance (xs : List Int) : Decidable (TCP xs) := by unfold TCP; infer_instance
theorem TCP.code {xs : List Int} (h : TCP xs) : CodeP (xs.length + 2) xs := ⟨rfl, fun x hx => by have := h.1 x hx; omega⟩
/-- the tree of a code, and nothing for other numbers -/
def tocV (xs : List Int) : Int × List Ed × Bool := if TCP xs then (((xs.length + 2 : Nat) : Int), treeT (xs.length + 2) xs, true) else (0, [], false)
theorem treeT_length (n : Nat) (xs : List Int) : (treeT n xs).length = xs.length + 1 := by
  unfold treeT preT; rw [srtE_length, List.length_append, edgTo_length]; rfl
theorem tocV_len (xs : List Int) : (tocV xs).2.1.length ≤ 6 := by
  unfold tocV
  split
  · rename_i h; dsimp only; rw [treeT_length]; have := h.2; omega
  · simp
theorem leafNat {n : Nat} {code : List Int} (hc : CodeP n code) {k : Nat} (hk : k < code.length) : ∃ v : Nat, leafAt n code k = (v : Int) ∧ v < n ∧ LeafP n code k (v : Int) := by
  have h := leaf_ok hc hk
  have hr := h.rg
  obtain ⟨v, hv⟩ := Int.eq_ofNat_of_zero_le hr.1
  rw [hv] at h hr
  exact ⟨v, hv, by omega, h⟩
theorem LeafP.is {n : Nat} {code : List Int} {k v w : Nat} (h : LeafP n code k (w : Int)) (h1 : v ≤ w) (h2 : ¬ (v : Int) ∈ goneTo n code k) (h3 : ¬ 0 < cntV (v : Int) (code.drop k)) : v = w := by
  by_cases e : v = w
  · exact e
  · rcases h.fst (v : Int) (by omega) (by omega) with h4 | h4
    · exact absurd h4 h2
    · have h5 := cntV_nonneg (v : Int) (code.drop k)
      exact absurd h4 (cntV_zero.1 (by omega))
theorem LeafP.ne_of_left {n : Nat} {code : List Int} {k v w : Nat} (h : LeafP n code k (w : Int)) (h3 : 0 < cntV (v : Int) (code.drop k)) : v ≠ w := fun e => by
  subst e
  have := cntV_zero.2 h.nc; omega
theorem LeafP.ne_of_gone {n : Nat} {code : List Int} {k v w : Nat} (h : LeafP n code k (w : Int)) (h3 : (v : Int) ∈ goneTo n code k) : v ≠ w := fun e => by
  subst e; exact h.ng h3
theorem edgTo_succ {n : Nat} {code : List Int} {k w : Nat} (h : leafAt n code k = (w : Int)) : edgTo n code (k + 1) = edgTo n code k ++ [edg (w : Int) (code.getD k 0)] := by rw [edgTo, h]
theorem goneTo_succ {n : Nat} {code : List Int} {k w : Nat} (h : leafAt n code k = (w : Int)) : goneTo n code (k + 1) = goneTo n code k ++ [(w : Int)] := by rw [← h]; rfl
theorem srt_next {n : Nat} {code : List Int} {k w : Nat} (h : leafAt n code k = (w : Int)) : insE (srtE (edgTo n code k)) (edg (w : Int) (code.getD k 0)) = srtE (edgTo n code (k + 1)) := by rw [edgTo_succ h, srtE_snoc]
theorem lastOf_t {i : Nat} {g : List Int} (h : ¬ (i : Int) ∈ g) : lastOf (i + 1) g = lastOf i g ++ [(i : Int)] := by
  unfold lastOf; rw [ids_succ, List.filter_append, List.filter_cons, if_pos (by simp [h])]; rfl
theorem lastOf_f {i : Nat} {g : List Int} (h : (i : Int) ∈ g) : lastOf (i + 1) g = lastOf i g := by
  unfold lastOf; rw [ids_succ, List.filter_append, List.filter_cons, if_neg (by simp [h])]; simp
theorem lastOf_le (i : Nat) (g : List Int) : (lastOf i g).length ≤ i := by
  have := List.length_filter_le (fun v => !decide (v ∈ g)) (ids i)
  rw [ids_length] at this; exact this
theorem last_edge {n : Nat} {code : List Int} {a b : Int} (h : LastP n (goneTo n code code.length) a b) : preT n code = edgTo n code code.length ++ [(a, b)] := by
  unfold preT; rw [h.eq]; rfl
theorem last_tree {n : Nat} {code : List Int} {a b : Int} (h : LastP n (goneTo n code code.length) a b) : insE (srtE (edgTo n code code.length)) (edg a b) = treeT n code := by
  unfold treeT
  rw [last_edge h, srtE_snoc]
  have := h.rg
  congr 1
  unfold edg; exact Prod.ext (by dsimp only; omega) (by dsimp only; omega)
theorem left_start (n : Nat) (xs : List Int) (i : Nat) (hi : i < n) : ((leftR n [] xs).take i ++ List.replicate (n - i) 0).set i (1 + cntV (i : Int) xs) = (leftR n [] xs).take (i + 1) ++ List.replicate (n - (i + 1)) 0 := by
  have e : (leftR n [] xs).getD i 0 = 1 + cntV (i : Int) xs := by rw [leftR_get hi]; simp
  have h := copy_step (xs := leftR n [] xs) (k := i) 0 (by rw [leftR_length]; exact hi)
  rw [leftR_length, e] at h
  exact h
theorem left_full (n : Nat) (g xs : List Int) (i : Nat) (h : n ≤ i) : (leftR n g xs).take i ++ List.replicate (n - i) 0 = leftR n g xs := by
  rw [List.take_of_length_le (by rw [leftR_length]; exact h), show n - i = 0 by omega]; simp
theorem left_zero {n : Nat} {code : List Int} {k w : Nat} (h : LeafP n code k (w : Int)) (hw : w < n) : (leftR n (goneTo n code k) (code.drop k)).getD w 0 = 1 := by
  rw [leftR_get hw, if_neg h.ng, cntV_zero.2 h.nc]; rfl
theorem leftR_bd (n : Nat) (g xs : List Int) (j : Nat) : 0 ≤ (leftR n g xs).getD j 0 ∧ (leftR n g xs).getD j 0 ≤ 1 + xs.length := by
  by_cases hj : j < n
  · rw [leftR_get hj]
    have h1 := cntV_nonneg (j : Int) xs
    have h2 := cntV_le (j : Int) xs
    split <;> omega
  · simp [List.getD_eq_getElem?_getD, List.getElem?_eq_none (show (leftR n g xs).length ≤ j by rw [leftR_length]; omega)]; omega
theorem tallyR_bd (n : Nat) (xs : List Int) (j : Nat) : 0 ≤ (tallyR n xs).getD j 0 ∧ (tallyR n xs).getD j 0 ≤ xs.length := by
  by_cases hj : j < n
  · rw [tallyR_get hj]
    exact ⟨cntV_nonneg _ _, cntV_le _ _⟩
  · simp [List.getD_eq_getElem?_getD, List.getElem?_eq_none (show (tallyR n xs).length ≤ j by rw [tallyR_length]; omega)]
theorem left_leafN {n : Nat} {code : List Int} {k w : Nat} (h : leafAt n code k = (w : Int)) : idxF (fun x => decide (x = 1)) (leftR n (goneTo n code k) (code.drop k)) = (w : Int) := by rw [left_leaf]; exact h
theorem last_okN {n : Nat} {code : List Int} (hc : CodeP n code) : ∃ a b : Nat, LastP n (goneTo n code code.length) (a : Int) (b : Int) ∧ a < b ∧ b < n := by
  obtain ⟨a, b, h⟩ := last_ok hc
  have hr := h.rg
  obtain ⟨a, rfl⟩ := Int.eq_ofNat_of_zero_le hr.1
  obtain ⟨b, rfl⟩ := Int.eq_ofNat_of_zero_le (show 0 ≤ b by omega)
  exact ⟨a, b, h, by omega, by omega⟩
/-! ### switches told from outside -/
theorem has_edg {n : Nat} {es : List Ed} (hg : Gr n es) {u v : Int} : hasE es u v ↔ edg u v ∈ es := by
  constructor
  · rintro ⟨x, hx, h⟩
    have hr := hg.inr x hx
    have : edg u v = x := by unfold edg; exact Prod.ext (by dsimp only; omega) (by dsimp only; omega)
    rw [this]; exact hx
  · intro h
    refine ⟨_, h, ?_⟩
    unfold edg; dsimp only; omega
/-- the graph after a switch, and nothing where it is not possible -/
def swV (N : Int) (es : List Ed) (a b c d : Int) : Int × List Ed × Bool := if ValidG N es ∧ MayS es a b c d then (N, swE es a b c d, true) else (0, [], false)
theorem swV_len (N : Int) (es : List Ed) (a b c d : Int) : (swV N es a b c d).2.1.length ≤ 200 := by
  unfold swV
  split
  · rename_i h
    have h1 := h.1.2
    have hg := h.1.gr
    have := (swE_gr hg h.2).len (by omega)
    dsimp only; omega
  · simp
def ApS (a b c d : Int) : Prop := a ≠ b ∧ a ≠ c ∧ a ≠ d ∧ b ≠ c ∧ b ≠ d ∧ c ≠ d
instance (a b c d : Int) : Decidable (ApS a b c d) := by unfold ApS; infer_instance
theorem mays_apart {n : Nat} {es : List Ed} (hg : Gr n es) {a b c d : Int} (h : MayS es a b c d) : ApS a b c d := by
  obtain ⟨h1, h2, h3, h4, h5, h6, _⟩ := h
  exact ⟨(edg_ne hg h5).1, h1, h3, h4, h2, (edg_ne hg h6).1⟩
def hitS (a b c d : Int) (x : Ed) : Bool := decide (x = edg a b) || decide (x = edg c d)
theorem preS_ok {n : Nat} {es : List Ed} (hg : Gr n es) (hn : n ≤ 7) {a b c d : Int} (hM : MayS es a b c d) : ∀ e ∈ es.filter (fun x => !hitS a b c d x) ++ [edg a c, edg b d], 0 ≤ e.1 ∧ e.1 ≤ 1000 ∧ 0 ≤ e.2 ∧ e.2 ≤ 1000 := by
  obtain ⟨h1, h2, h3, h4, h5, h6, _⟩ := hM
  have r1 := edg_ne hg h5
  have r2 := edg_ne hg h6
  intro e he
  rcases List.mem_append.1 he with h | h
  · have := hg.inr e (List.mem_filter.1 h).1; omega
  · simp only [List.mem_cons, List.not_mem_nil, or_false] at h
    rcases h with rfl | rfl <;> (unfold edg; dsimp only; omega)
theorem pre_len {n : Nat} {es : List Ed} (hg : Gr n es) (hn : n ≤ 7) (p : Ed → Bool) (x y : Ed) : (es.filter p ++ [x, y]).length ≤ 200 := by
  have h1 := hg.len (by omega)
  have h2 := List.length_filter_le p es
  rw [List.length_append]; show _ + 2 ≤ 200; omega
theorem swE_eq' {n : Nat} {es : List Ed} (h : Gr n es) (a b c d : Int) : srtE (es.filter (fun x => !hitS a b c d x) ++ [edg a c, edg b d]) = swE es a b c d := swE_eq h a b c d
end Go.Plain
