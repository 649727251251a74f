/- Plain lists and numbers: what the functions of the program compute, and small facts on it. No program in sight. Conditions: those of each theorem. -/
import Init
namespace Go.Plain
/-- numbers that are small enough for sums not to wrap -/
def Small (xs : List Int) : Prop := xs.length ≤ 100 ∧ ∀ x ∈ xs, -1000 ≤ x ∧ x ≤ 1000
theorem getD_mem {α : Type} {xs : List α} {k : Nat} (d : α) (h : k < xs.length) : xs.getD k d ∈ xs := by
  rw [List.getD_eq_getElem?_getD, List.getElem?_eq_getElem h]; simp
theorem take_succ {α : Type} {xs : List α} {k : Nat} (d : α) (h : k < xs.length) : xs.take (k + 1) = xs.take k ++ [xs.getD k d] := by
  rw [List.take_succ_eq_append_getElem h]; simp [h]
theorem Small.at_ {xs : List Int} (h : Small xs) {k : Nat} (hk : k < xs.length) : -1000 ≤ xs.getD k 0 ∧ xs.getD k 0 ≤ 1000 := h.2 _ (getD_mem 0 hk)
def total (xs : List Int) : Int := xs.sum
theorem total_take {xs : List Int} {k : Nat} (h : k < xs.length) : total (xs.take (k + 1)) = total (xs.take k) + xs.getD k 0 := by
  rw [take_succ 0 h]; simp [total]
theorem total_bd {xs : List Int} (h : Small xs) (k : Nat) (hk : k ≤ xs.length) : -1000 * k ≤ total (xs.take k) ∧ total (xs.take k) ≤ 1000 * k := by
  induction k with
  | zero => simp [total]
  | succ k ih =>
    have := ih (by omega)
    have := h.at_ (k := k) (by omega)
    rw [total_take (by omega)]
    omega
/-! ### copies, marks -/
theorem copy_step {α : Type} {xs : List α} {k : Nat} (z : α) (h : k < xs.length) : (xs.take k ++ List.replicate (xs.length - k) z).set k (xs.getD k z) = xs.take (k + 1) ++ List.replicate (xs.length - (k + 1)) z := by
  have e : xs.length - k = (xs.length - (k + 1)) + 1 := by omega
  rw [e, List.replicate_succ, List.set_append_right _ _ (by simp; omega), take_succ z h]
  have e2 : k - (xs.take k).length = 0 := by simp; omega
  rw [e2]
  simp
/-- k, k+1, … -/
def marks (k : Int) (n : Nat) : List Int := (List.range n).map (fun (i : Nat) => k + (i : Int))
theorem marks_length (k : Int) (n : Nat) : (marks k n).length = n := by simp [marks]
theorem marks_get {k : Int} {n i : Nat} (h : i < n) : (marks k n).getD i 0 = k + (i : Int) := by
  simp [marks, List.getD_eq_getElem?_getD, h]
theorem mark_step {xs : List Int} {k : Int} {i : Nat} (h : i < xs.length) : (marks k i ++ xs.drop i).set i (k + (i : Int)) = marks k (i + 1) ++ xs.drop (i + 1) := by
  rw [List.set_append_right _ _ (by simp [marks_length])]
  have e2 : i - (marks k i).length = 0 := by simp [marks_length]
  have e3 : xs.drop i = xs[i] :: xs.drop (i + 1) := List.drop_eq_getElem_cons h
  rw [e2, e3, List.set_cons_zero]
  simp [marks, List.range_succ]
theorem take_eq_step {α : Type} {xs ys : List α} {k : Nat} (z : α) (hl : xs.length = ys.length) (h : k < xs.length) (he : xs.take k = ys.take k) (hk : xs.getD k z = ys.getD k z) : xs.take (k + 1) = ys.take (k + 1) := by
  rw [take_succ z h, take_succ z (by omega), he, hk]
/-! ### finding -/
def idxF {α : Type} (p : α → Bool) (xs : List α) : Int := if xs.any p then (xs.findIdx p : Int) else -1
theorem idxF_none {α : Type} {p : α → Bool} {xs : List α} (h : ∀ x ∈ xs, p x = false) : idxF p xs = -1 := by
  have : xs.any p = false := by simpa using h
  simp [idxF, this]
theorem idxF_found {α : Type} {p : α → Bool} {xs : List α} {k : Nat} (z : α) (hk : k < xs.length) (h : ∀ x ∈ xs.take k, p x = false) (hp : p (xs.getD k z) = true) : idxF p xs = (k : Int) := by
  have ha : xs.any p = true := List.any_eq_true.2 ⟨_, getD_mem z hk, hp⟩
  have e : xs.getD k z = xs[k] := by simp [hk]
  simp only [idxF, ha, if_true]
  congr 1
  rw [List.findIdx_eq hk]
  refine ⟨by rw [← e]; exact hp, fun j hj => ?_⟩
  exact h _ (by rw [List.mem_take_iff_getElem]; exact ⟨j, by omega, rfl⟩)
theorem idxF_nonneg {α : Type} {p : α → Bool} {xs : List α} : 0 ≤ idxF p xs ↔ ∃ x ∈ xs, p x = true := by
  unfold idxF
  by_cases h : xs.any p = true
  · simp only [h, if_true]; constructor
    · intro _; simpa using h
    · intro _; omega
  · simp only [h]; constructor
    · intro h2; simp at h2
    · intro h2; exact absurd (by simpa using h2) h
theorem all_take_step {α : Type} {p : α → Prop} {xs : List α} {k : Nat} (z : α) (hk : k < xs.length) (h : ∀ x ∈ xs.take k, p x) (hp : p (xs.getD k z)) : ∀ x ∈ xs.take (k + 1), p x := by
  rw [take_succ z hk]; intro x hx
  rcases List.mem_append.1 hx with h1 | h1
  · exact h x h1
  · simp only [List.mem_singleton] at h1; subst h1; exact hp
theorem take_all {α : Type} {p : α → Prop} {xs : List α} {k : Nat} (hk : xs.length ≤ k) (h : ∀ x ∈ xs.take k, p x) : ∀ x ∈ xs, p x := by rwa [List.take_of_length_le hk] at h
/-! ### the library's insertion sort -/
/-- the neighbours at j and j - 1 change places -/
def swp {α : Type} (z : α) (xs : List α) (j : Nat) : List α := (xs.set j (xs.getD (j - 1) z)).set (j - 1) (xs.getD j z)
theorem swp_length {α : Type} (z : α) (xs : List α) (j : Nat) : (swp z xs j).length = xs.length := by simp [swp]
theorem swp_mem {α : Type} {z : α} {xs : List α} {j : Nat} (h : j < xs.length) {x : α} (hx : x ∈ swp z xs j) : x ∈ xs := by
  unfold swp at hx
  rcases List.mem_or_eq_of_mem_set hx with h1 | rfl
  · rcases List.mem_or_eq_of_mem_set h1 with h2 | rfl
    · exact h2
    · exact getD_mem z (by omega)
  · exact getD_mem z h
/-- what stands at j sinks while it is less than its neighbour -/
def sink {α : Type} (z : α) (lt : α → α → Bool) : Nat → List α → List α
  | 0, xs => xs
  | j + 1, xs => if lt (xs.getD (j + 1) z) (xs.getD j z) then sink z lt j (swp z xs (j + 1)) else xs
theorem sink_length {α : Type} (z : α) (lt : α → α → Bool) : ∀ (j : Nat) (xs : List α), (sink z lt j xs).length = xs.length
  | 0, _ => rfl
  | j + 1, xs => by
    unfold sink; split
    · rw [sink_length, swp_length]
    · rfl
theorem sink_mem {α : Type} {z : α} {lt : α → α → Bool} : ∀ {j : Nat} {xs : List α}, j < xs.length → ∀ x ∈ sink z lt j xs, x ∈ xs
  | 0, _, _, _, h => h
  | j + 1, xs, hj, x, h => by
    unfold sink at h; split at h
    · exact swp_mem hj (sink_mem (by rw [swp_length]; omega) x h)
    · exact h
/-- the first k are sorted -/
def sortTo {α : Type} (z : α) (lt : α → α → Bool) (xs : List α) : Nat → List α
  | 0 => xs
  | k + 1 => sink z lt k (sortTo z lt xs k)
theorem sortTo_length {α : Type} (z : α) (lt : α → α → Bool) (xs : List α) : ∀ k, (sortTo z lt xs k).length = xs.length
  | 0 => rfl
  | k + 1 => by rw [sortTo, sink_length, sortTo_length]
theorem sortTo_mem {α : Type} {z : α} {lt : α → α → Bool} {xs : List α} : ∀ {k : Nat}, k ≤ xs.length → ∀ x ∈ sortTo z lt xs k, x ∈ xs
  | 0, _, _, h => h
  | k + 1, hk, x, h => sortTo_mem (by omega) x (sink_mem (by rw [sortTo_length]; omega) x h)
def isort {α : Type} (z : α) (lt : α → α → Bool) (xs : List α) : List α := sortTo z lt xs xs.length
theorem isort_length {α : Type} (z : α) (lt : α → α → Bool) (xs : List α) : (isort z lt xs).length = xs.length := sortTo_length _ _ _ _
theorem isort_mem {α : Type} {z : α} {lt : α → α → Bool} {xs : List α} : ∀ x ∈ isort z lt xs, x ∈ xs := sortTo_mem (Nat.le_refl _)
theorem sort_start {α : Type} (z : α) (lt : α → α → Bool) (xs : List α) : xs = sortTo z lt xs 1 := rfl
theorem sort_end {α : Type} {z : α} {lt : α → α → Bool} {xs : List α} {k : Nat} (h1 : 1 ≤ k) (h2 : k ≤ xs.length ∨ k = 1) (h3 : xs.length ≤ k) : sortTo z lt xs k = isort z lt xs := by
  unfold isort
  rcases h2 with h | rfl
  · rw [show k = xs.length from by omega]
  · rcases xs with _ | ⟨x, _ | ⟨y, r⟩⟩
    · rfl
    · rfl
    · simp at h3
def ltOf (c : Int → Int → Int) (a b : Int) : Bool := decide (c a b < 0)
theorem sink_zero {lt : Int → Int → Bool} {ys : List Int} {j : Nat} (h : j = 0) : sink 0 lt j ys = ys := by subst h; rfl
theorem sink_stop {c : Int → Int → Int} {ys : List Int} {j : Nat} (h : ¬ c (ys.getD j 0) (ys.getD (j - 1) 0) < 0) : sink 0 (ltOf c) j ys = ys := by
  rcases j with _ | j
  · rfl
  · simp only [Nat.add_sub_cancel] at h
    rw [sink, if_neg (by simpa only [ltOf, decide_eq_true_eq] using h)]
theorem sink_step {c : Int → Int → Int} {ys : List Int} {j : Nat} (h0 : 0 < j) (h : c (ys.getD j 0) (ys.getD (j - 1) 0) < 0) : sink 0 (ltOf c) j ys = sink 0 (ltOf c) (j - 1) (swp 0 ys j) := by
  rcases j with _ | j
  · omega
  · simp only [Nat.add_sub_cancel] at h
    simp only [Nat.add_sub_cancel, sink]
    rw [if_pos (by simpa [ltOf] using h)]
/-- the list without what stands at i, and a nought at its end -/
def del (xs : List Int) (i : Nat) : List Int := (xs.take i ++ xs.drop (i + 1)) ++ [0]
theorem del_length {xs : List Int} {i : Nat} (h : i < xs.length) : (del xs i).length = xs.length := by simp only [del, List.length_append, List.length_take, List.length_drop, List.length_cons, List.length_nil]; omega
theorem clear_last {xs : List Int} {i l k : Nat} (hi : i < xs.length) (hl : l = xs.length - 1) (hk : k = 1) :
    (xs.take i ++ xs.drop (i + 1) ++ xs.drop (xs.length - 1)).take l ++ List.replicate k 0 ++ (xs.take i ++ xs.drop (i + 1) ++ xs.drop (xs.length - 1)).drop (l + (List.replicate k (0 : Int)).length) = (xs.take i ++ xs.drop (i + 1)) ++ [0] := by
  subst hl hk
  have e1 : (xs.take i ++ xs.drop (i + 1)).length = xs.length - 1 := by simp; omega
  have e2 : (xs.drop (xs.length - 1)).length = 1 := by simp; omega
  generalize xs.take i ++ xs.drop (i + 1) = u at *
  generalize xs.drop (xs.length - 1) = t at *
  have h1 : (u ++ t).take (xs.length - 1) = u := by rw [List.take_append_of_le_length (by omega), List.take_of_length_le (by omega)]
  have h2 : (u ++ t).drop (xs.length - 1 + (List.replicate 1 (0 : Int)).length) = [] := List.drop_of_length_le (by rw [List.length_append]; simp; omega)
  rw [h1, h2]; simp
/-! ### degrees -/
def Valid (d : List Int) : Prop := d.length ≤ 7 ∧ ∀ x ∈ d, 0 ≤ x ∧ x ≤ (d.length : Int) - 1
instance (d : List Int) : Decidable (Valid d) := by unfold Valid; exact inferInstance
theorem Valid.small {d : List Int} (h : Valid d) : Small d := ⟨by have := h.1; omega, fun x hx => by have := h.1; have := h.2 x hx; omega⟩
/-! ### edges and graphs -/
def marksE (k : Int) (n : Nat) : List (Int × Int) := (List.range n).map (fun (i : Nat) => (k + 2 * (i : Int), k + 2 * (i : Int) + 1))
theorem marksE_length (k : Int) (n : Nat) : (marksE k n).length = n := by simp [marksE]
theorem marksE_get {k : Int} {n i : Nat} (h : i < n) : (marksE k n).getD i (0, 0) = (k + 2 * (i : Int), k + 2 * (i : Int) + 1) := by
  simp [marksE, List.getD_eq_getElem?_getD, h]
theorem markE_step {es : List (Int × Int)} {k : Int} {i : Nat} (u v : Int) : ((marksE k i ++ es.drop i).set i (k + 2 * (i : Int), u)).set i (v, k + 2 * (i : Int) + 1) = ((marksE k i ++ es.drop i)).set i (v, k + 2 * (i : Int) + 1) := by rw [List.set_set]
theorem markE_step2 {es : List (Int × Int)} {k : Int} {i : Nat} (h : i < es.length) : (marksE k i ++ es.drop i).set i (k + 2 * (i : Int), k + 2 * (i : Int) + 1) = marksE k (i + 1) ++ es.drop (i + 1) := by
  rw [List.set_append_right _ _ (by simp [marksE_length])]
  have e2 : i - (marksE k i).length = 0 := by simp [marksE_length]
  have e3 : es.drop i = es[i] :: es.drop (i + 1) := List.drop_eq_getElem_cons h
  rw [e2, e3, List.set_cons_zero]
  simp [marksE, List.range_succ]
theorem set_getD {α : Type} {xs : List α} {i : Nat} (z y : α) (h : i < xs.length) : (xs.set i y).getD i z = y := by simp [List.getD_eq_getElem?_getD, h]
def below (a b : Int × Int) : Prop := a.1 < b.1 ∨ a.1 = b.1 ∧ a.2 < b.2
instance (a b : Int × Int) : Decidable (below a b) := by unfold below; exact inferInstance
def cmpE (x y : Int × Int) : Int := if x.1 ≠ y.1 then x.1 - y.1 else x.2 - y.2
theorem cmpE_below (x y : Int × Int) : cmpE x y < 0 ↔ below x y := by
  unfold cmpE below; split <;> omega
/-- what is asked of the edge with the index i -/
def okE (N : Int) (es : List (Int × Int)) (i : Nat) : Prop := 0 ≤ (es.getD i (0, 0)).1 ∧ (es.getD i (0, 0)).1 < (es.getD i (0, 0)).2 ∧ (es.getD i (0, 0)).2 < N ∧ (0 < i → below (es.getD (i - 1) (0, 0)) (es.getD i (0, 0)))
instance (N : Int) (es : List (Int × Int)) (i : Nat) : Decidable (okE N es i) := by unfold okE; exact inferInstance
def ValidG (N : Int) (es : List (Int × Int)) : Prop := (∀ i, i < es.length → okE N es i) ∧ 0 ≤ N ∧ N ≤ 7
instance (N : Int) (es : List (Int × Int)) : Decidable (ValidG N es) := by unfold ValidG; exact inferInstance
/-! ### laying off -/
/-- the indices but one -/
def idx (n : Nat) (but : Int) : List Int := ((List.range n).map Int.ofNat).filter (· ≠ but)
theorem idx_succ_ne {n : Nat} {but : Int} (h : (n : Int) ≠ but) : idx (n + 1) but = idx n but ++ [(n : Int)] := by simp [idx, List.range_succ, List.filter_append, h]
theorem idx_succ_eq {n : Nat} {but : Int} (h : (n : Int) = but) : idx (n + 1) but = idx n but := by simp [idx, List.range_succ, List.filter_append, h]
theorem idx_len (n : Nat) (but : Int) : (idx n but).length ≤ n := by unfold idx; exact Nat.le_trans (List.length_filter_le _ _) (by simp)
theorem idx_mem {n : Nat} {but x : Int} : x ∈ idx n but ↔ 0 ≤ x ∧ x < n ∧ x ≠ but := by
  simp only [idx, List.mem_filter, List.mem_map, List.mem_range, decide_eq_true_eq]
  constructor
  · rintro ⟨⟨i, h, rfl⟩, h2⟩; exact ⟨by simp, by simpa using h, h2⟩
  · rintro ⟨h1, h2, h3⟩; exact ⟨⟨x.toNat, by omega, by simp; omega⟩, h3⟩
/-- the greatest of those that are not out yet, among the first k -/
def best (d out : List Int) (v : Int) : Nat → Int
  | 0 => -1
  | k + 1 => if (k : Int) ≠ v ∧ (k : Int) ∉ out ∧ (best d out v k < 0 ∨ d.getD (best d out v k).toNat 0 < d.getD k 0) then (k : Int) else best d out v k
theorem best_bd (d out : List Int) (v : Int) : ∀ k, -1 ≤ best d out v k ∧ best d out v k < k
  | 0 => by simp [best]
  | k + 1 => by
    have := best_bd d out v k
    unfold best; split <;> omega
def gre (d : List Int) (v : Int) : Nat → List Int
  | 0 => []
  | m + 1 => gre d v m ++ [best d (gre d v m) v d.length]
theorem gre_length (d : List Int) (v : Int) : ∀ m, (gre d v m).length = m
  | 0 => rfl
  | m + 1 => by simp [gre, gre_length d v m]
def low (d out : List Int) (i : Nat) : Int := d.getD i 0 - (if (i : Int) ∈ out then 1 else 0)
def lows (d out : List Int) (v : Int) (k : Nat) : List Int := ((List.range k).filter (fun (i : Nat) => decide ((i : Int) ≠ v))).map (low d out)
theorem lows_ne {d out : List Int} {v : Int} {k : Nat} (h : (k : Int) ≠ v) : lows d out v (k + 1) = lows d out v k ++ [low d out k] := by simp [lows, List.range_succ, List.filter_append, h]
theorem lows_eq {d out : List Int} {v : Int} {k : Nat} (h : (k : Int) = v) : lows d out v (k + 1) = lows d out v k := by simp [lows, List.range_succ, List.filter_append, h]
theorem lows_len (d out : List Int) (v : Int) (k : Nat) : (lows d out v k).length ≤ k := by
  unfold lows; rw [List.length_map]; exact Nat.le_trans (List.length_filter_le _ _) (by simp)
def layS (d : List Int) (v : Int) : List Int × Bool :=
  let out := gre d v (d.getD v.toNat 0).toNat
  if ∀ i, i < d.length → (i : Int) ≠ v → 0 ≤ low d out i then (lows d out v d.length, true) else ([], false)
theorem layS_no {d : List Int} {v : Int} {i : Nat} (hi : i < d.length) (hne : ¬ (i : Int) = v) (h : low d (gre d v (d.getD v.toNat 0).toNat) i < 0) : layS d v = ([], false) := if_neg fun h2 => by have := h2 i hi hne; omega
theorem layS_yes {d : List Int} {v : Int} (h : ∀ i, i < d.length → (i : Int) ≠ v → 0 ≤ low d (gre d v (d.getD v.toNat 0).toNat) i) : layS d v = (lows d (gre d v (d.getD v.toNat 0).toNat) v d.length, true) := if_pos h
def laySpec (d : List Int) (v : Int) : List Int × Bool := if Valid d ∧ 0 ≤ v ∧ v ≤ (d.length : Int) - 1 then layS d v else ([], false)
/-- one less at each index of a list -/
def decs (d : List Int) : List Int → List Int
  | [] => d
  | i :: r => decs (d.set i.toNat (d.getD i.toNat 0 - 1)) r
theorem decs_length : ∀ (os d : List Int), (decs d os).length = d.length
  | [], _ => rfl
  | i :: r, d => by rw [decs, decs_length r]; simp
theorem decs_snoc : ∀ (os d : List Int) (i : Int), decs d (os ++ [i]) = (decs d os).set i.toNat ((decs d os).getD i.toNat 0 - 1)
  | [], _, _ => rfl
  | j :: r, d, i => by simp only [List.cons_append, decs]; exact decs_snoc r _ i
def byDeg (d : List Int) (a b : Int) : Int := d.getD b.toNat 0 - d.getD a.toNat 0
def grI (d : List Int) (v : Int) : List Int := (isort 0 (ltOf (byDeg d)) (idx d.length v)).take (d.getD v.toNat 0).toNat
def layI (d : List Int) (v : Int) : List Int × Bool :=
  let out := grI d v
  if ∀ m, m < out.length → 0 ≤ (decs d (out.take (m + 1))).getD (out.getD m 0).toNat 0 then ((decs d out).take v.toNat ++ (decs d out).drop (v.toNat + 1), true) else ([], false)
theorem layI_no {d : List Int} {v : Int} {m : Nat} (hm : m < (grI d v).length) (h : (decs d ((grI d v).take (m + 1))).getD ((grI d v).getD m 0).toNat 0 < 0) : layI d v = ([], false) := if_neg fun h2 => by have := h2 m hm; omega
theorem layI_yes {d : List Int} {v : Int} (h : ∀ m, m < (grI d v).length → 0 ≤ (decs d ((grI d v).take (m + 1))).getD ((grI d v).getD m 0).toNat 0) : layI d v = ((decs d (grI d v)).take v.toNat ++ (decs d (grI d v)).drop (v.toNat + 1), true) := if_pos h
theorem layI_fin {d : List Int} {v m : Nat} (hv : v < d.length) (hm : m = (grI d (v : Int)).length) (h : ∀ j, j < m → 0 ≤ (decs d ((grI d (v : Int)).take (j + 1))).getD ((grI d (v : Int)).getD j 0).toNat 0) :
    layI d (v : Int) = ((decs d ((grI d (v : Int)).take m)).take v ++ (decs d ((grI d (v : Int)).take m)).drop (v + 1), true) ∧ ((decs d ((grI d (v : Int)).take m)).take v ++ (decs d ((grI d (v : Int)).take m)).drop (v + 1)).length = d.length - 1
      ∧ (del (decs d ((grI d (v : Int)).take m)) v).take (d.length - 1) = (decs d ((grI d (v : Int)).take m)).take v ++ (decs d ((grI d (v : Int)).take m)).drop (v + 1) := by
  subst hm
  have e : (grI d (v : Int)).take (grI d (v : Int)).length = grI d (v : Int) := List.take_length
  rw [e]
  have hl : ((decs d (grI d (v : Int))).take v ++ (decs d (grI d (v : Int))).drop (v + 1)).length = d.length - 1 := by
    simp only [List.length_append, List.length_take, List.length_drop, decs_length]; omega
  refine ⟨layI_yes h, hl, ?_⟩
  unfold del
  rw [List.take_append_of_le_length (by omega), List.take_of_length_le (by omega)]
theorem idx_length {n v : Nat} (h : v < n) : (idx n (v : Int)).length = n - 1 := by
  have key : ∀ m, (idx m (v : Int)).length = if v < m then m - 1 else m := by
    intro m
    induction m with
    | zero => simp [idx]
    | succ m ih =>
      by_cases e : (m : Int) = (v : Int)
      · rw [idx_succ_eq e, ih, if_neg (by omega), if_pos (by omega)]; omega
      · rw [idx_succ_ne e, List.length_append, ih]
        by_cases h2 : v < m
        · rw [if_pos h2, if_pos (by omega)]; simp; omega
        · rw [if_neg h2, if_neg (by omega)]; rfl
  rw [key, if_pos h]
theorem decs_bd {d : List Int} (hs : Small d) : ∀ (os : List Int) (x : Int), x ∈ decs d os → -1000 - (os.length : Int) ≤ x ∧ x ≤ 1000 := by
  have key : ∀ (os d : List Int) (b : Int), 0 ≤ b → (∀ x ∈ d, -1000 - b ≤ x ∧ x ≤ 1000) → ∀ x ∈ decs d os, -1000 - b - (os.length : Int) ≤ x ∧ x ≤ 1000 := by
    intro os
    induction os with
    | nil => intro d b _ h x hx; have := h x hx; simp; omega
    | cons i r ih =>
      intro d b hb h x hx
      have := ih (d.set i.toNat (d.getD i.toNat 0 - 1)) (b + 1) (by omega) (fun y hy => by
        rcases List.mem_or_eq_of_mem_set hy with h1 | rfl
        · have := h y h1; omega
        · by_cases hl : i.toNat < d.length
          · have := h _ (getD_mem (xs := d) (k := i.toNat) 0 hl); omega
          · have e : d.getD i.toNat 0 = 0 := by simp [List.getD_eq_getElem?_getD, List.getElem?_eq_none (Nat.not_lt.1 hl)]
            rw [e]; omega) x hx
      simp only [List.length_cons]; omega
  intro os x hx
  have := key os d 0 (by omega) (fun y hy => by have := hs.2 y hy; omega) x hx
  omega
def layImpl (d : List Int) (v : Int) : List Int × Bool := if Valid d ∧ 0 ≤ v ∧ v ≤ (d.length : Int) - 1 then layI d v else ([], false)
theorem laySpec_len (d : List Int) (v : Int) : (laySpec d v).1.length ≤ 7 := by
  unfold laySpec
  split
  · rename_i h
    unfold layS
    dsimp only
    split
    · exact Nat.le_trans (lows_len _ _ _ _) h.1.1
    · exact Nat.zero_le _
  · exact Nat.zero_le _
end Go.Plain
