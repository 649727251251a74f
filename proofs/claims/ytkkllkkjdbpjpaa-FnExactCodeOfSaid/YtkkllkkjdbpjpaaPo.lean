/- Plain lists: the library's insertion sort sorts; laying off by sorting is laying off by picking the greatest. Conditions: those of each theorem. -/
import Derived.Test.YtkkllkkjdbpjpaaPl
namespace Go.Plain
section
variable {α : Type} {z : α} {lt : α → α → Bool} {R : α → α → Prop}
theorem swp_mid (q : List α) (y x : α) (r : List α) : swp z (q ++ y :: x :: r) (q.length + 1) = q ++ x :: y :: r := by
  unfold swp
  have e1 : (q ++ y :: x :: r).getD (q.length + 1) z = x := by simp [List.getD_eq_getElem?_getD]
  have e2 : (q ++ y :: x :: r).getD (q.length + 1 - 1) z = y := by simp [List.getD_eq_getElem?_getD]
  rw [e1, e2, Nat.add_sub_cancel, List.set_append_right _ _ (by omega), List.set_append_right _ _ (by omega)]
  simp
theorem sink_spec : ∀ (n : Nat) (p : List α) (x : α) (r : List α), p.length = n → ∃ a b, p = a ++ b ∧ (∀ y ∈ b, lt x y = true) ∧ (∀ a' y, a = a' ++ [y] → lt x y = false) ∧ sink z lt p.length (p ++ x :: r) = a ++ x :: (b ++ r)
  | 0, p, x, r, h => by
    have : p = [] := List.length_eq_zero_iff.1 h
    subst this
    exact ⟨[], [], rfl, by simp, by simp, rfl⟩
  | n + 1, p, x, r, h => by
    have hp : p ≠ [] := by intro e; subst e; simp at h
    obtain ⟨q, y, rfl⟩ : ∃ q y, p = q ++ [y] := ⟨p.dropLast, p.getLast hp, (List.dropLast_concat_getLast hp).symm⟩
    have hq : q.length = n := by simpa using h
    have e0 : (q ++ [y]).length = q.length + 1 := by simp
    have e3 : q ++ [y] ++ x :: r = q ++ y :: x :: r := by simp
    have e1 : (q ++ y :: x :: r).getD (q.length + 1) z = x := by simp [List.getD_eq_getElem?_getD]
    have e2 : (q ++ y :: x :: r).getD q.length z = y := by simp [List.getD_eq_getElem?_getD]
    rw [e0, e3, sink, e1, e2]
    by_cases hl : lt x y = true
    · rw [if_pos hl, swp_mid]
      obtain ⟨a, b, h1, h2, h3, h4⟩ := sink_spec n q x (y :: r) hq
      refine ⟨a, b ++ [y], by rw [h1]; simp, ?_, h3, by rw [h4]; simp⟩
      intro u hu
      rcases List.mem_append.1 hu with h | h
      · exact h2 u h
      · simp only [List.mem_singleton] at h; subst h; exact hl
    · rw [if_neg hl]
      refine ⟨q ++ [y], [], by simp, by simp, ?_, by simp⟩
      intro a' y' he
      have := List.append_inj_right' he rfl
      simp only [List.cons.injEq, and_true] at this
      subst this; simpa using hl
theorem sortTo_spec {xs : List α} (htr : ∀ a b c, R a b → R b c → R a c) (hx : xs.Pairwise (fun y x => (lt x y = true → R x y) ∧ (lt x y = false → R y x))) :
    ∀ k, k ≤ xs.length → ∃ P, P.length = k ∧ sortTo z lt xs k = P ++ xs.drop k ∧ P.Perm (xs.take k) ∧ P.Pairwise R
  | 0, _ => ⟨[], rfl, by simp [sortTo], by simp, .nil⟩
  | k + 1, hk => by
    obtain ⟨P, h1, h2, h3, h4⟩ := sortTo_spec htr hx k (by omega)
    have hd : xs.drop k = xs[k] :: xs.drop (k + 1) := List.drop_eq_getElem_cons (by omega)
    obtain ⟨a, b, e1, e2, e3, e4⟩ := sink_spec (z := z) (lt := lt) k P xs[k] (xs.drop (k + 1)) h1
    have ht : xs.take (k + 1) = xs.take k ++ [xs[k]] := List.take_succ_eq_append_getElem (by omega)
    have hpw : (xs.take (k + 1)).Pairwise (fun y x => (lt x y = true → R x y) ∧ (lt x y = false → R y x)) := hx.sublist (List.take_sublist _ _)
    rw [ht, List.pairwise_append] at hpw
    have hrel : ∀ y ∈ P, (lt xs[k] y = true → R xs[k] y) ∧ (lt xs[k] y = false → R y xs[k]) := fun y hy => hpw.2.2 y (h3.mem_iff.1 hy) _ (by simp)
    refine ⟨a ++ xs[k] :: b, ?_, ?_, ?_, ?_⟩
    · rw [e1] at h1; simp only [List.length_append, List.length_cons] at h1 ⊢; omega
    · rw [h1] at e4; rw [sortTo, h2, hd, e4]; simp
    · rw [ht]
      refine List.perm_middle.trans ?_
      refine .trans ?_ (List.perm_append_singleton xs[k] _).symm
      rw [e1] at h3
      exact .cons _ h3
    · rw [e1, List.pairwise_append] at h4
      have hb : ∀ y ∈ b, R xs[k] y := fun y hy => (hrel y (by rw [e1]; simp [hy])).1 (e2 y hy)
      have ha : ∀ y ∈ a, R y xs[k] := by
        intro y hy
        rcases List.eq_nil_or_concat a with h | ⟨a', y0, h⟩
        · subst h; simp at hy
        · have h' : a = a' ++ [y0] := by simpa using h
          have h0 : R y0 xs[k] := (hrel y0 (by rw [e1, h']; simp)).2 (e3 a' y0 h')
          rw [h'] at hy h4
          rcases List.mem_append.1 hy with h5 | h5
          · exact htr _ _ _ ((List.pairwise_append.1 h4.1).2.2 y h5 y0 (by simp)) h0
          · simp only [List.mem_singleton] at h5; subst h5; exact h0
      rw [List.pairwise_append]
      refine ⟨h4.1, List.pairwise_cons.2 ⟨hb, h4.2.1⟩, ?_⟩
      intro y hy u hu
      rcases List.mem_cons.1 hu with rfl | hu
      · exact ha y hy
      · exact h4.2.2 y hy u hu
theorem isort_spec {xs : List α} (htr : ∀ a b c, R a b → R b c → R a c) (hx : xs.Pairwise (fun y x => (lt x y = true → R x y) ∧ (lt x y = false → R y x))) : (isort z lt xs).Perm xs ∧ (isort z lt xs).Pairwise R := by
  obtain ⟨P, h1, h2, h3, h4⟩ := sortTo_spec (z := z) htr hx xs.length (Nat.le_refl _)
  have e : isort z lt xs = P := by unfold isort; rw [h2]; simp
  rw [e]; exact ⟨by simpa using h3, h4⟩
end
/-! ### the two ways of laying off are one -/
def Bef (d : List Int) (i j : Int) : Prop := d.getD j.toNat 0 < d.getD i.toNat 0 ∨ (d.getD i.toNat 0 = d.getD j.toNat 0 ∧ i < j)
theorem Bef.trans {d : List Int} (a b c : Int) (h1 : Bef d a b) (h2 : Bef d b c) : Bef d a c := by unfold Bef at *; omega
theorem idx_pairwise (n : Nat) (v : Int) : (idx n v).Pairwise (· < ·) := by
  unfold idx
  refine List.Pairwise.filter _ ?_
  rw [List.pairwise_map]
  exact (List.pairwise_lt_range (n := n)).imp (fun h => by simpa using h)
theorem sorted_idx (d : List Int) (n : Nat) (v : Int) : (isort 0 (ltOf (byDeg d)) (idx n v)).Perm (idx n v) ∧ (isort 0 (ltOf (byDeg d)) (idx n v)).Pairwise (Bef d) := by
  refine isort_spec Bef.trans ((idx_pairwise n v).imp fun {a b} h => ?_)
  unfold ltOf byDeg Bef
  constructor
  · intro h1; simp only [decide_eq_true_eq] at h1; omega
  · intro h1; simp only [decide_eq_false_iff_not] at h1; omega
/-- what best finds -/
theorem best_spec (d out : List Int) (v : Int) : ∀ k : Nat, (best d out v k < 0 ∧ ∀ j : Nat, j < k → (j : Int) = v ∨ (j : Int) ∈ out) ∨ (0 ≤ best d out v k ∧ best d out v k ≠ v ∧ best d out v k ∉ out ∧ ∀ j : Nat, j < k → (j : Int) ≠ v → (j : Int) ∉ out → best d out v k = j ∨ Bef d (best d out v k) j)
  | 0 => .inl ⟨by simp [best], fun j hj => absurd hj (Nat.not_lt_zero _)⟩
  | k + 1 => by
    have hb := best_bd d out v k
    rw [best]
    by_cases hc : (k : Int) ≠ v ∧ (k : Int) ∉ out ∧ (best d out v k < 0 ∨ d.getD (best d out v k).toNat 0 < d.getD k 0)
    · rw [if_pos hc]
      refine .inr ⟨by omega, hc.1, hc.2.1, fun j hj h1 h2 => ?_⟩
      rcases Nat.lt_succ_iff_lt_or_eq.1 hj with h | rfl
      · rcases best_spec d out v k with ⟨_, h4⟩ | ⟨h0, h3, h4, h5⟩
        · rcases h4 j h with h6 | h6
          · exact absurd h6 h1
          · exact absurd h6 h2
        · rcases hc.2.2 with h6 | h6
          · omega
          · right
            have e : ((k : Int)).toNat = k := rfl
            have e' : ((j : Int)).toNat = j := rfl
            rcases h5 j h h1 h2 with h7 | h7
            · rw [h7, e'] at h6; exact .inl h6
            · unfold Bef at h7 ⊢; rw [e]; omega
      · exact .inl rfl
    · rw [if_neg hc]
      rcases best_spec d out v k with ⟨h0, h4⟩ | ⟨h0, h3, h4, h5⟩
      · refine .inl ⟨h0, fun j hj => ?_⟩
        rcases Nat.lt_succ_iff_lt_or_eq.1 hj with h | rfl
        · exact h4 j h
        · by_cases h1 : (j : Int) = v
          · exact .inl h1
          · by_cases h2 : (j : Int) ∈ out
            · exact .inr h2
            · exact absurd ⟨h1, h2, .inl h0⟩ hc
      · refine .inr ⟨h0, h3, h4, fun j hj h1 h2 => ?_⟩
        rcases Nat.lt_succ_iff_lt_or_eq.1 hj with h | rfl
        · exact h5 j h h1 h2
        · right
          have h6 : ¬ d.getD (best d out v j).toNat 0 < d.getD j 0 := fun h6 => hc ⟨h1, h2, .inr h6⟩
          have e' : ((j : Int)).toNat = j := rfl
          unfold Bef; rw [e']; omega
theorem gre_sorted {d : List Int} {v : Int} : ∀ m, m ≤ (idx d.length v).length → gre d v m = (isort 0 (ltOf (byDeg d)) (idx d.length v)).take m
  | 0, _ => rfl
  | m + 1, hm => by
    obtain ⟨hp, hs⟩ := sorted_idx d d.length v
    have hlen := hp.length_eq
    rw [gre, gre_sorted m (by omega)]
    generalize isort 0 (ltOf (byDeg d)) (idx d.length v) = L at *
    have hml : m < L.length := by omega
    rw [List.take_succ_eq_append_getElem hml]
    congr 2
    have hnd : L.Pairwise (· ≠ ·) := hs.imp fun {a b} h => by rintro rfl; unfold Bef at h; omega
    have hL : L[m] ∈ idx d.length v := hp.mem_iff.1 (List.getElem_mem hml)
    have hLb := idx_mem.1 hL
    have hsp : L = L.take m ++ L[m] :: L.drop (m + 1) := by rw [← List.drop_eq_getElem_cons hml, List.take_append_drop]
    have hout : L[m] ∉ L.take m := by
      intro h
      have h2 := hnd
      rw [hsp, List.pairwise_append] at h2
      exact h2.2.2 _ h L[m] (List.Mem.head _) rfl
    obtain ⟨i, hi⟩ := Int.eq_ofNat_of_zero_le hLb.1
    rcases best_spec d (L.take m) v d.length with ⟨_, h4⟩ | ⟨h0, h3, h4, h5⟩
    · rcases h4 i (by omega) with h6 | h6
      · omega
      · rw [← hi] at h6; exact absurd h6 hout
    · have hbb := best_bd d (L.take m) v d.length
      rcases h5 i (by omega) (by omega) (by rw [← hi]; exact hout) with h6 | h6
      · rw [h6, hi]
      · rw [← hi] at h6
        have hmem : best d (L.take m) v d.length ∈ L := hp.mem_iff.2 (idx_mem.2 ⟨h0, hbb.2, h3⟩)
        generalize best d (L.take m) v d.length = b at *
        rw [hsp] at hmem
        rcases List.mem_append.1 hmem with h7 | h7
        · exact absurd h7 h4
        · rcases List.mem_cons.1 h7 with h8 | h8
          · exact h8
          · have h9 := hs
            rw [hsp, List.pairwise_append] at h9
            have := (List.pairwise_cons.1 h9.2.1).1 _ h8
            unfold Bef at this h6; omega
theorem decs_get : ∀ (os d : List Int), os.Pairwise (· ≠ ·) → (∀ x ∈ os, 0 ≤ x ∧ x < d.length) → ∀ i : Nat, i < d.length → (decs d os).getD i 0 = d.getD i 0 - (if (i : Int) ∈ os then 1 else 0)
  | [], d, _, _, i, _ => by simp [decs]
  | o :: r, d, hn, hb, i, hi => by
    have hn' := List.pairwise_cons.1 hn
    have ho := hb o (by simp)
    rw [decs, decs_get r _ hn'.2 (fun x hx => by have := hb x (by simp [hx]); simpa using this) i (by simpa using hi)]
    by_cases h : o.toNat = i
    · have ho' : (i : Int) = o := by omega
      have hnot : (i : Int) ∉ r := fun h2 => hn'.1 _ h2 ho'.symm
      have e : (d.set o.toNat (d.getD o.toNat 0 - 1)).getD i 0 = d.getD i 0 - 1 := by subst h; simp [List.getD_eq_getElem?_getD, hi]
      rw [e, if_neg hnot, if_pos (by simp [ho'])]; omega
    · have e : (d.set o.toNat (d.getD o.toNat 0 - 1)).getD i 0 = d.getD i 0 := by simp [List.getD_eq_getElem?_getD, h]
      rw [e]
      have : (i : Int) ∈ o :: r ↔ (i : Int) ∈ r := by
        rw [List.mem_cons]
        exact ⟨fun h2 => h2.elim (fun h3 => absurd (by omega) h) id, .inr⟩
      simp only [this]
theorem range_but {v : Nat} : ∀ n, v < n → (List.range n).filter (fun (i : Nat) => decide ((i : Int) ≠ (v : Int))) = (List.range n).take v ++ (List.range n).drop (v + 1)
  | 0, h => absurd h (Nat.not_lt_zero _)
  | n + 1, h => by
    rw [List.range_succ, List.filter_append]
    rcases Nat.lt_succ_iff_lt_or_eq.1 h with h1 | rfl
    · rw [range_but n h1, List.take_append_of_le_length (by simp; omega), List.drop_append_of_le_length (by simp; omega)]
      have : ¬ ((n : Int) = (v : Int)) := by omega
      simp [this]
    · have h2 : (List.range v).filter (fun (i : Nat) => decide ((i : Int) ≠ (v : Int))) = List.range v := List.filter_eq_self.2 fun a ha => by simp only [List.mem_range] at ha; simp; omega
      rw [h2]
      simp
theorem list_of_getD {xs : List Int} {f : Nat → Int} (h : ∀ i, i < xs.length → xs.getD i 0 = f i) : xs = (List.range xs.length).map f := by
  apply List.ext_getElem (by simp)
  intro i h1 h2
  have := h i h1
  simp [List.getD_eq_getElem?_getD, h1] at this
  simp [this]
theorem layEq (d : List Int) (v : Int) : layImpl d v = laySpec d v := by
  unfold layImpl laySpec
  by_cases hc : Valid d ∧ 0 ≤ v ∧ v ≤ (d.length : Int) - 1
  · rw [if_pos hc, if_pos hc]
    obtain ⟨hV, hv0, hv1⟩ := hc
    obtain ⟨v, rfl⟩ := Int.eq_ofNat_of_zero_le hv0
    have hvl : v < d.length := by omega
    have hdv := hV.2 _ (getD_mem (xs := d) (k := v) 0 hvl)
    have e0 : ((v : Int)).toNat = v := rfl
    have hil := idx_length hvl
    obtain ⟨hp, hs⟩ := sorted_idx d d.length (v : Int)
    have hg : gre d v (d.getD v 0).toNat = grI d v := gre_sorted _ (by omega)
    have hmem : ∀ x ∈ grI d v, 0 ≤ x ∧ x < d.length ∧ x ≠ (v : Int) := fun x hx => idx_mem.1 (hp.mem_iff.1 (List.mem_of_mem_take hx))
    have hnd : (grI d v).Pairwise (· ≠ ·) := (hs.sublist (List.take_sublist _ _)).imp fun {a b} h => by rintro rfl; unfold Bef at h; omega
    have hdec : ∀ i, i < d.length → (decs d (grI d v)).getD i 0 = low d (grI d v) i := fun i hi => decs_get _ d hnd (fun x hx => ⟨(hmem x hx).1, (hmem x hx).2.1⟩) i hi
    have hiff : (∀ m, m < (grI d v).length → 0 ≤ (decs d ((grI d v).take (m + 1))).getD ((grI d v).getD m 0).toNat 0) ↔ (∀ i, i < d.length → (i : Int) ≠ (v : Int) → 0 ≤ low d (grI d v) i) := by
      have hm1 : ∀ m, m < (grI d v).length → (decs d ((grI d v).take (m + 1))).getD ((grI d v).getD m 0).toNat 0 = d.getD ((grI d v).getD m 0).toNat 0 - 1 := by
        intro m hm
        have hx := getD_mem (xs := grI d v) (k := m) 0 hm
        have hb := hmem _ hx
        rw [decs_get _ d (hnd.sublist (List.take_sublist _ _)) (fun x hx => ⟨(hmem x (List.mem_of_mem_take hx)).1, (hmem x (List.mem_of_mem_take hx)).2.1⟩) _ (by omega), if_pos]
        rw [Int.toNat_of_nonneg hb.1, take_succ 0 hm]; simp
      constructor
      · intro h i hi hne
        unfold low
        split
        · rename_i h2
          obtain ⟨m, hm, e⟩ := List.getElem_of_mem h2
          have h3 := h m hm
          rw [hm1 m hm] at h3
          have e2 : (grI d v).getD m 0 = (i : Int) := by simp [List.getD_eq_getElem?_getD, hm, e]
          rw [e2] at h3; exact h3
        · have := hV.2 _ (getD_mem (xs := d) (k := i) 0 hi); omega
      · intro h m hm
        have hx := getD_mem (xs := grI d v) (k := m) 0 hm
        have hb := hmem _ hx
        obtain ⟨i, hi⟩ := Int.eq_ofNat_of_zero_le hb.1
        have h3 := h i (by omega) (by omega)
        rw [hm1 m hm, hi]
        rw [low, if_pos (by rw [← hi]; exact hx)] at h3
        exact h3
    unfold layI layS
    dsimp only
    rw [e0, hg]
    by_cases hq : ∀ i, i < d.length → (i : Int) ≠ (v : Int) → 0 ≤ low d (grI d v) i
    · rw [if_pos hq, if_pos (hiff.2 hq)]
      congr 1
      have hl : decs d (grI d v) = (List.range d.length).map (low d (grI d v)) := by
        have := list_of_getD (xs := decs d (grI d v)) (f := low d (grI d v)) (fun i hi => hdec i (by rwa [decs_length] at hi))
        rwa [decs_length] at this
      rw [hl, lows, range_but _ hvl, List.map_append, List.map_take, List.map_drop]
    · rw [if_neg hq, if_neg (fun h => hq (hiff.1 h))]
  · rw [if_neg hc, if_neg hc]
end Go.Plain
