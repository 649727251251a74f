/- Margins, scores, matrices, tournaments. No program in sight. Conditions: those of each theorem. -/
import Derived.Test.YtkkllkkjdbpjpaaPt
namespace Go.Plain
theorem minsum_perm {a b : List Int} (h : a.Perm b) (k : Int) : minsum a k = minsum b k := total_perm (h.map _)
theorem minsum_append (a b : List Int) (k : Int) : minsum (a ++ b) k = minsum a k + minsum b k := by
  unfold minsum; rw [List.map_append, total_append]
theorem minsum_le_len (k : Int) : ∀ l : List Int, minsum l k ≤ (l.length : Int) * k
  | [] => by simp [minsum, total]
  | x :: l => by
    have h := minsum_le_len k l
    have e : minsum (x :: l) k = min x k + minsum l k := by simp [minsum, total_cons]
    rw [e, List.length_cons, Int.natCast_add, Int.add_mul]; omega
theorem minsum_ge {k : Int} : ∀ {l : List Int}, (∀ x ∈ l, k ≤ x) → minsum l k = (l.length : Int) * k
  | [], _ => by simp [minsum, total]
  | x :: l, h => by
    have h1 := minsum_ge (l := l) fun y hy => h y (List.mem_cons_of_mem _ hy)
    have h2 := h x List.mem_cons_self
    have e : minsum (x :: l) k = min x k + minsum l k := by simp [minsum, total_cons]
    rw [e, h1, List.length_cons, Int.natCast_add, Int.add_mul]; omega
theorem cut_at (t : Int) : ∀ {a : List Int}, a.Pairwise (· ≥ ·) → ∃ k, k ≤ a.length ∧ (∀ x ∈ a.take k, t ≤ x) ∧ ∀ x ∈ a.drop k, x ≤ t
  | [], _ => ⟨0, Nat.le_refl _, by simp, by simp⟩
  | x :: a, h => by
    rw [List.pairwise_cons] at h
    by_cases hx : t ≤ x
    · obtain ⟨k, hk, h1, h2⟩ := cut_at t h.2
      refine ⟨k + 1, by simp; omega, fun y hy => ?_, fun y hy => h2 y (by simpa using hy)⟩
      rw [List.take_succ_cons, List.mem_cons] at hy
      rcases hy with rfl | hy
      · exact hx
      · exact h1 y hy
    · refine ⟨0, Nat.zero_le _, by simp, fun y hy => ?_⟩
      rw [List.drop_zero, List.mem_cons] at hy
      rcases hy with rfl | hy
      · omega
      · have := h.1 y hy; omega
theorem galeL_none {r c : List Int} : noneNeg (galeL r c) ↔ ∀ k, k < r.length → total ((fall r).take (k + 1)) ≤ minsum c ((k + 1 : Nat) : Int) := by
  constructor
  · intro h k hk
    have := h (galeAt r c k) (List.mem_map.2 ⟨k, List.mem_range.2 hk, rfl⟩)
    unfold galeAt at this; omega
  · intro h x hx
    obtain ⟨k, hk, rfl⟩ := List.mem_map.1 hx
    have := h k (List.mem_range.1 hk)
    unfold galeAt; omega
theorem gale_turn {r c : List Int} (hc : ∀ x ∈ c, 0 ≤ x) (ht : total r = total c) (h : noneNeg (galeL r c)) : noneNeg (galeL c r) := by
  rw [galeL_none] at h ⊢
  intro l hl
  obtain ⟨k, hk, h1, h2⟩ := cut_at ((l + 1 : Nat) : Int) (fall_sorted r)
  have e1 : minsum r ((l + 1 : Nat) : Int) = minsum (fall r) ((l + 1 : Nat) : Int) := minsum_perm (fall_perm r).symm _
  have e2 : minsum (fall r) ((l + 1 : Nat) : Int) = minsum ((fall r).take k) ((l + 1 : Nat) : Int) + minsum ((fall r).drop k) ((l + 1 : Nat) : Int) := by rw [← minsum_append, List.take_append_drop]
  have e3 := minsum_ge h1
  have e4 := minsum_all h2
  have e5 := total_split (fall r) k
  rw [total_fall] at e5
  have hk2 : ((fall r).take k).length = k := by rw [List.length_take]; omega
  rw [hk2] at e3
  have h3 : total ((fall r).take k) ≤ minsum c (k : Int) := by
    rcases Nat.eq_zero_or_pos k with rfl | h0
    · have h5 : minsum c ((0 : Nat) : Int) = minsum c 0 := rfl
      rw [List.take_zero]
      have := minsum_ge (l := c) (k := ((0 : Nat) : Int)) hc
      rw [this]; simp [total]
    · have := h (k - 1) (by rw [fall_length] at hk; omega)
      rwa [show k - 1 + 1 = k from by omega] at this
  have e6 : minsum c (k : Int) = minsum ((fall c).take (l + 1)) (k : Int) + minsum ((fall c).drop (l + 1)) (k : Int) := by
    rw [← minsum_append, List.take_append_drop]; exact minsum_perm (fall_perm c).symm _
  have e7 := minsum_le_len (k : Int) ((fall c).take (l + 1))
  have e8 := minsum_le (l := (fall c).drop (l + 1)) (k := (k : Int))
  have e9 := total_split (fall c) (l + 1)
  rw [total_fall] at e9
  have hl2 : ((fall c).take (l + 1)).length = l + 1 := by rw [List.length_take, fall_length]; omega
  rw [hl2] at e7
  have e10 : ((l + 1 : Nat) : Int) * (k : Int) = (k : Int) * ((l + 1 : Nat) : Int) := Int.mul_comm _ _
  omega
/-! ### scores turned round -/
theorem asc_unique {a b : List Int} (h : a.Perm b) (ha : a.Pairwise (· ≤ ·)) (hb : b.Pairwise (· ≤ ·)) : a = b := by
  have h1 := sorted_unique (a := a.reverse) (b := b.reverse) ((List.reverse_perm a).trans (h.trans (List.reverse_perm b).symm)) (List.pairwise_reverse.2 ha) (List.pairwise_reverse.2 hb)
  simpa using congrArg List.reverse h1
def turn (n : Int) (xs : List Int) : List Int := xs.map fun x => n - x
theorem asc_turn (n : Int) (xs : List Int) : asc (turn n xs) = turn n (fall xs) := by
  refine asc_unique ((asc_perm _).trans ((fall_perm xs).map _).symm) (asc_sorted _) ?_
  unfold turn
  rw [List.pairwise_map]
  exact (fall_sorted xs).imp fun h => by omega
theorem total_turn (n : Int) : ∀ xs : List Int, total (turn n xs) = (xs.length : Int) * n - total xs
  | [] => by simp [turn, total]
  | x :: xs => by
    have h := total_turn n xs
    have e : total (turn n (x :: xs)) = (n - x) + total (turn n xs) := by simp [turn, total_cons]
    rw [e, h, total_cons, List.length_cons, Int.natCast_add, Int.add_mul]; omega
theorem complV_turn {xs : List Int} (h : Valid xs) : complV xs = turn ((xs.length : Int) - 1) xs := by
  have h2 : complV xs = (List.range xs.length).map (complAt xs) := if_pos h
  rw [h2]
  apply List.ext_getElem
  · simp [turn]
  · intro i h1 h3
    simp [turn, complAt, List.getD_eq_getElem?_getD, List.getElem?_eq_getElem (show i < xs.length by simpa using h1)]
def landau (xs : List Int) (k : Nat) : Int := total ((asc xs).take k) - (k : Int) * ((k : Int) - 1) / 2
theorem overAt_landau (xs : List Int) (i : Nat) : overAt xs i = landau xs (i + 1) := rfl
theorem landau_zero (xs : List Int) : landau xs 0 = 0 := by simp [landau, total]
theorem landau_last (xs : List Int) : landau xs xs.length = total xs - (xs.length : Int) * ((xs.length : Int) - 1) / 2 := by
  unfold landau; rw [List.take_of_length_le (by rw [asc_length]; exact Nat.le_refl _), total_perm (asc_perm xs)]
theorem tri_id : ∀ n : Nat, n ≤ 5 → ∀ i, i ≤ n → (i : Int) * ((n : Int) - 1) - (n : Int) * ((n : Int) - 1) / 2 - (i : Int) * ((i : Int) - 1) / 2 = - (((n - i : Nat) : Int) * (((n - i : Nat) : Int) - 1) / 2) := by decide
theorem landau_turn {xs : List Int} (hl : xs.length ≤ 5) (ht : landau xs xs.length = 0) {i : Nat} (hi : i ≤ xs.length) : landau (turn ((xs.length : Int) - 1) xs) i = landau xs (xs.length - i) := by
  have h1 := landau_last xs
  have h2 := fall_drop (xs := xs) (k := xs.length - i)
  rw [show xs.length - (xs.length - i) = i from by omega] at h2
  have h3 := total_split (fall xs) i
  rw [total_fall] at h3
  have h4 : total ((turn ((xs.length : Int) - 1) (fall xs)).take i) = (i : Int) * ((xs.length : Int) - 1) - total ((fall xs).take i) := by
    have := total_turn ((xs.length : Int) - 1) ((fall xs).take i)
    rw [List.length_take, fall_length, Nat.min_eq_left hi] at this
    rw [← this]; unfold turn; rw [List.map_take]
  have h5 := tri_id xs.length hl i hi
  have e1 : landau (turn ((xs.length : Int) - 1) xs) i = total ((turn ((xs.length : Int) - 1) (fall xs)).take i) - (i : Int) * ((i : Int) - 1) / 2 := by unfold landau; rw [asc_turn]
  have e2 : landau xs (xs.length - i) = total ((asc xs).take (xs.length - i)) - ((xs.length - i : Nat) : Int) * (((xs.length - i : Nat) : Int) - 1) / 2 := rfl
  omega
def ScP (xs : List Int) : Prop := ValidSc xs ∧ noneNeg (scoreL xs) ∧ (scoreL xs).getD (xs.length - 1) 0 = 0
theorem scoreL_get {xs : List Int} {k : Nat} (h : k < xs.length) : (scoreL xs).getD k 0 = landau xs (k + 1) := by
  simp [scoreL, List.getD_eq_getElem?_getD, h, overAt_landau]
theorem none_scores {xs : List Int} : noneNeg (scoreL xs) ↔ ∀ k, 1 ≤ k → k ≤ xs.length → 0 ≤ landau xs k := by
  constructor
  · intro h k h1 h2
    have := h (overAt xs (k - 1)) (List.mem_map.2 ⟨k - 1, List.mem_range.2 (by omega), rfl⟩)
    rw [overAt_landau, show k - 1 + 1 = k from by omega] at this; exact this
  · intro h x hx
    obtain ⟨k, hk, rfl⟩ := List.mem_map.1 hx
    rw [overAt_landau]; exact h _ (by omega) (by have := List.mem_range.1 hk; omega)
theorem scp_iff {xs : List Int} : ScP xs ↔ ValidSc xs ∧ (∀ k, 1 ≤ k → k ≤ xs.length → 0 ≤ landau xs k) ∧ landau xs xs.length = 0 := by
  unfold ScP; rw [none_scores]
  constructor
  · rintro ⟨h1, h2, h3⟩
    have := h1.1
    rw [scoreL_get (by omega), show xs.length - 1 + 1 = xs.length from by omega] at h3
    exact ⟨h1, h2, h3⟩
  · rintro ⟨h1, h2, h3⟩
    have := h1.1
    rw [scoreL_get (by omega), show xs.length - 1 + 1 = xs.length from by omega]
    exact ⟨h1, h2, h3⟩
theorem strong_iff {xs : List Int} : StrongP xs ↔ ScP xs ∧ ∀ k, 1 ≤ k → k < xs.length → landau xs k ≠ 0 := by
  unfold StrongP
  constructor
  · rintro ⟨h1, h2⟩
    refine ⟨h1, fun k hk hk2 => ?_⟩
    have := h2 (k - 1) (by omega)
    rwa [scoreL_get (by omega), show k - 1 + 1 = k from by omega] at this
  · rintro ⟨h1, h2⟩
    refine ⟨h1, fun k hk => ?_⟩
    rw [scoreL_get (by omega)]; exact h2 _ (by omega) (by omega)
theorem turn_length (n : Int) (xs : List Int) : (turn n xs).length = xs.length := by simp [turn]
theorem ValidSc.valid {xs : List Int} (h : ValidSc xs) : Valid xs := ⟨by have := h.2.1; omega, h.2.2⟩
theorem scp_turn {xs : List Int} (h : ScP xs) : ScP (turn ((xs.length : Int) - 1) xs) := by
  rw [scp_iff] at h ⊢
  obtain ⟨h1, h2, h3⟩ := h
  have hl := h1.2.1
  rw [turn_length]
  refine ⟨⟨by rw [turn_length]; exact h1.1, by rw [turn_length]; exact hl, fun x hx => ?_⟩, fun k hk hk2 => ?_, ?_⟩
  · obtain ⟨y, hy, rfl⟩ := List.mem_map.1 hx
    have := h1.2.2 y hy
    rw [turn_length]; omega
  · rw [landau_turn hl h3 hk2]
    rcases Nat.eq_zero_or_pos (xs.length - k) with h0 | h0
    · rw [h0, landau_zero]; omega
    · exact h2 _ h0 (by omega)
  · rw [landau_turn hl h3 (Nat.le_refl _), Nat.sub_self, landau_zero]
theorem strong_turn {xs : List Int} (h : ScP xs) : StrongP (complV xs) ↔ StrongP xs := by
  have hs := scp_iff.1 h
  have hl := hs.1.2.1
  rw [complV_turn hs.1.valid, strong_iff, strong_iff, turn_length]
  constructor
  · rintro ⟨_, h2⟩
    refine ⟨h, fun k hk hk2 => ?_⟩
    have := h2 (xs.length - k) (by omega) (by omega)
    rwa [landau_turn hl hs.2.2 (by omega), show xs.length - (xs.length - k) = k from by omega] at this
  · rintro ⟨_, h2⟩
    refine ⟨scp_turn h, fun k hk hk2 => ?_⟩
    rw [landau_turn hl hs.2.2 (by omega)]
    exact h2 _ (by omega) (by omega)
theorem asc_perm_eq {a b : List Int} (h : a.Perm b) : asc a = asc b := asc_unique ((asc_perm a).trans (h.trans (asc_perm b).symm)) (asc_sorted a) (asc_sorted b)
theorem landau_perm {a b : List Int} (h : a.Perm b) (k : Nat) : landau a k = landau b k := by unfold landau; rw [asc_perm_eq h]
theorem scp_perm {a b : List Int} (h : a.Perm b) (hs : ScP a) : ScP b := by
  rw [scp_iff] at hs ⊢
  obtain ⟨h1, h2, h3⟩ := hs
  have hl := h.length_eq
  refine ⟨⟨by rw [← hl]; exact h1.1, by rw [← hl]; exact h1.2.1, fun x hx => by rw [← hl]; exact h1.2.2 x (h.mem_iff.2 hx)⟩, fun k hk hk2 => ?_, ?_⟩
  · rw [← landau_perm h]; exact h2 k hk (by omega)
  · rw [← landau_perm h, ← hl]; exact h3
theorem strong_perm {a b : List Int} (h : a.Perm b) : StrongP a ↔ StrongP b := by
  rw [strong_iff, strong_iff, h.length_eq]
  exact ⟨fun ⟨h1, h2⟩ => ⟨scp_perm h h1, fun k a b => by rw [← landau_perm h]; exact h2 k a b⟩, fun ⟨h1, h2⟩ => ⟨scp_perm h.symm h1, fun k a b => by rw [landau_perm h]; exact h2 k a b⟩⟩
theorem strong_sorted {xs : List Int} (h : Valid xs) : StrongP (sortedL xs) ↔ StrongP xs := by
  rw [show sortedL xs = fall xs from if_pos h]; exact strong_perm (fall_perm xs)
/-! ### matrices -/
abbrev Mat := List (List Int)
def rsum (m : Mat) : List Int := m.map total
def colAt (m : Mat) (j : Nat) : Int := total (m.map fun r => r.getD j 0)
def colsN (m : Mat) : Nat := (m.getD 0 []).length
def csum (m : Mat) : List Int := (List.range (colsN m)).map (colAt m)
def trM (m : Mat) : Mat := (List.range (colsN m)).map fun j => m.map fun r => r.getD j 0
def MatP (m : Mat) : Prop := (1 ≤ m.length ∧ m.length ≤ 5) ∧ ∀ r ∈ m, r.length = colsN m ∧ (1 ≤ r.length ∧ r.length ≤ 5) ∧ ∀ x ∈ r, 0 ≤ x ∧ x ≤ 1
theorem rsum_tr (m : Mat) : rsum (trM m) = csum m := by simp [rsum, trM, csum, colAt]
theorem total_zeros : ∀ n : Nat, total ((List.range n).map fun _ => (0 : Int)) = 0 := by
  intro n
  induction n with
  | zero => rfl
  | succ n ih => rw [map_range_succ, total_append, ih]; rfl
theorem total_as_range (r : List Int) : total r = total ((List.range r.length).map fun j => r.getD j 0) := by
  congr 1
  apply List.ext_getElem
  · simp
  · intro i h1 h2; simp [List.getD_eq_getElem?_getD, List.getElem?_eq_getElem h1]
theorem tsum (n : Nat) : ∀ rows : Mat, (∀ r ∈ rows, r.length = n) → total (rows.map total) = total ((List.range n).map (colAt rows))
  | [], _ => by
    have : (List.range n).map (colAt []) = (List.range n).map fun _ => (0 : Int) := by simp [colAt, total]
    rw [this, total_zeros]; rfl
  | r :: rows, h => by
    have h1 := tsum n rows fun q hq => h q (List.mem_cons_of_mem _ hq)
    have h2 := h r List.mem_cons_self
    have h3 := total_map_add (fun j => r.getD j 0) (colAt rows) (List.range n)
    have h4 : (List.range n).map (colAt (r :: rows)) = (List.range n).map fun j => r.getD j 0 + colAt rows j := by
      apply List.map_congr_left; intro j _; simp [colAt, total_cons]
    rw [h4, h3, ← h1, List.map_cons, total_cons, total_as_range r, h2]
theorem perm_map_exists {α β : Type} {f : α → β} : ∀ {bs cs : List β}, bs.Perm cs → ∀ l : List α, l.map f = bs → ∃ l' : List α, l'.Perm l ∧ l'.map f = cs := by
  intro bs cs h
  induction h with
  | nil => intro l hl; exact ⟨l, .refl _, hl⟩
  | cons x _ ih =>
    intro l hl
    cases l with
    | nil => cases hl
    | cons y l =>
      rw [List.map_cons, List.cons.injEq] at hl
      obtain ⟨l', h1, h2⟩ := ih l hl.2
      exact ⟨y :: l', h1.cons _, by rw [List.map_cons, h2, hl.1]⟩
  | swap x y s =>
    intro l hl
    match l, hl with
    | a :: b :: l, hl =>
      simp only [List.map_cons, List.cons.injEq] at hl
      exact ⟨b :: a :: l, .swap _ _ _, by simp only [List.map_cons]; rw [hl.1, hl.2.1, hl.2.2]⟩
  | trans _ _ ih1 ih2 =>
    intro l hl
    obtain ⟨l1, h1, h2⟩ := ih1 l hl
    obtain ⟨l2, h3, h4⟩ := ih2 l1 h2
    exact ⟨l2, h3.trans h1, h4⟩
theorem total_mono {α : Type} {f g : α → Int} : ∀ {l : List α}, (∀ x ∈ l, f x ≤ g x) → total (l.map f) ≤ total (l.map g)
  | [], _ => Int.le_refl _
  | x :: l, h => by
    have h1 := total_mono (l := l) fun y hy => h y (List.mem_cons_of_mem _ hy)
    have h2 := h x List.mem_cons_self
    rw [List.map_cons, List.map_cons, total_cons, total_cons]; omega
theorem total_bd01 : ∀ {l : List Int}, (∀ x ∈ l, 0 ≤ x ∧ x ≤ 1) → 0 ≤ total l ∧ total l ≤ l.length
  | [], _ => by simp [total]
  | x :: l, h => by
    have h1 := total_bd01 (l := l) fun y hy => h y (List.mem_cons_of_mem _ hy)
    have h2 := h x List.mem_cons_self
    rw [total_cons, List.length_cons]; omega
theorem getD_or {r : List Int} {P : Int → Prop} (h : ∀ x ∈ r, P x) (h0 : P 0) (j : Nat) : P (r.getD j 0) := by
  by_cases hj : j < r.length
  · exact h _ (getD_mem 0 hj)
  · rwa [show r.getD j 0 = 0 from by simp [List.getD_eq_getElem?_getD, List.getElem?_eq_none (show r.length ≤ j by omega)]]
theorem col01 {rows : Mat} (h : ∀ r ∈ rows, ∀ x ∈ r, 0 ≤ x ∧ x ≤ 1) (j : Nat) : 0 ≤ colAt rows j ∧ colAt rows j ≤ rows.length := by
  have := total_bd01 (l := rows.map fun r => r.getD j 0) fun x hx => by
    obtain ⟨r, hr, rfl⟩ := List.mem_map.1 hx
    exact getD_or (P := fun x => 0 ≤ x ∧ x ≤ 1) (h r hr) (by omega) j
  simpa [colAt] using this
theorem colAt_append (a b : Mat) (j : Nat) : colAt (a ++ b) j = colAt a j + colAt b j := by unfold colAt; rw [List.map_append, total_append]
theorem colAt_perm {a b : Mat} (h : a.Perm b) (j : Nat) : colAt a j = colAt b j := total_perm (h.map _)
theorem total_sums {m : Mat} (h : MatP m) : total (rsum m) = total (csum m) := tsum _ m fun r hr => (h.2 r hr).1
theorem csum_len (m : Mat) : (csum m).length = colsN m := by simp [csum]
theorem rsum_len (m : Mat) : (rsum m).length = m.length := by simp [rsum]
theorem MatP.cols {m : Mat} (h : MatP m) : 1 ≤ colsN m ∧ colsN m ≤ 5 := by
  have h1 := h.1
  have := h.2 (m.getD 0 []) (getD_mem [] (by omega))
  exact this.2.1
theorem matP_margins {m : Mat} (h : MatP m) : ValidM (rsum m) (csum m) := by
  have hc := h.cols
  refine ⟨by rw [rsum_len]; exact h.1, by rw [csum_len]; exact hc, fun x hx => ?_, fun x hx => ?_⟩
  · obtain ⟨r, hr, rfl⟩ := List.mem_map.1 hx
    have h1 := h.2 r hr
    have := total_bd01 h1.2.2
    rw [csum_len, ← h1.1]; exact this
  · obtain ⟨j, hj, rfl⟩ := List.mem_map.1 hx
    rw [rsum_len]; exact col01 (fun r hr => (h.2 r hr).2.2) j
theorem matP_bigr {m : Mat} (h : MatP m) : BigrP (rsum m) (csum m) := by
  refine ⟨matP_margins h, total_sums h, galeL_none.2 fun k hk => ?_⟩
  obtain ⟨m', h1, h2⟩ := perm_map_exists (fall_perm (rsum m)).symm m rfl
  rw [rsum_len] at hk
  have hlen := h1.length_eq
  have h01 : ∀ r ∈ m', ∀ x ∈ r, 0 ≤ x ∧ x ≤ 1 := fun r hr => (h.2 r (h1.mem_iff.1 hr)).2.2
  have e1 : total ((fall (rsum m)).take (k + 1)) = total ((List.range (colsN m)).map (colAt (m'.take (k + 1)))) := by
    rw [← h2, ← List.map_take]
    exact tsum _ _ fun r hr => (h.2 r (h1.mem_iff.1 (List.mem_of_mem_take hr))).1
  rw [e1]
  have e2 : minsum (csum m) ((k + 1 : Nat) : Int) = total ((List.range (colsN m)).map fun j => min (colAt m j) ((k + 1 : Nat) : Int)) := by
    unfold minsum csum; rw [List.map_map]; rfl
  rw [e2]
  refine total_mono fun j _ => ?_
  have a1 := col01 (rows := m'.take (k + 1)) (fun r hr => h01 r (List.mem_of_mem_take hr)) j
  have a2 := col01 (rows := m'.drop (k + 1)) (fun r hr => h01 r (List.mem_of_mem_drop hr)) j
  have a3 : colAt m j = colAt (m'.take (k + 1)) j + colAt (m'.drop (k + 1)) j := by
    rw [← colAt_append, List.take_append_drop, colAt_perm h1]
  rw [List.length_take] at a1
  omega
theorem tr_get {m : Mat} {j : Nat} (hj : j < colsN m) : (trM m).getD j [] = m.map fun r => r.getD j 0 := by
  simp [trM, List.getD_eq_getElem?_getD, hj]
theorem tr_len (m : Mat) : (trM m).length = colsN m := by simp [trM]
theorem tr_cols {m : Mat} (h : MatP m) : colsN (trM m) = m.length := by
  have := h.cols
  unfold colsN; rw [tr_get (by omega)]; simp
theorem tr_matP {m : Mat} (h : MatP m) : MatP (trM m) := by
  have hc := h.cols
  refine ⟨by rw [tr_len]; exact hc, fun r hr => ?_⟩
  obtain ⟨j, hj, rfl⟩ := List.mem_map.1 hr
  refine ⟨by rw [tr_cols h]; simp, by simpa using h.1, fun x hx => ?_⟩
  obtain ⟨r, hr, rfl⟩ := List.mem_map.1 hx
  exact getD_or (P := fun x => 0 ≤ x ∧ x ≤ 1) (h.2 r hr).2.2 (by omega) j
theorem csum_tr {m : Mat} (h : MatP m) : csum (trM m) = rsum m := by
  unfold csum; rw [tr_cols h]
  apply List.ext_getElem
  · simp [rsum]
  · intro i h1 h2
    have hi : i < m.length := by simpa using h1
    have hr := (h.2 m[i] (List.getElem_mem hi)).1
    have e2 : (rsum m)[i] = total m[i] := by simp [rsum]
    rw [e2, List.getElem_map, List.getElem_range, total_as_range m[i], hr]
    unfold colAt trM
    rw [List.map_map]
    congr 1
    apply List.map_congr_left
    intro j _
    simp [List.getD_eq_getElem?_getD, hi]
/-! ### tournaments -/
def ent (t : Mat) (a b : Nat) : Int := (t.getD a []).getD b 0
def TourP (t : Mat) : Prop := (1 ≤ t.length ∧ t.length ≤ 5) ∧ (∀ r ∈ t, r.length = t.length) ∧ ∀ a b, a < t.length → b < t.length → (0 ≤ ent t a b ∧ ent t a b ≤ 1) ∧ (a ≠ b → ent t a b + ent t b a = 1) ∧ (a = b → ent t a b = 0)
theorem TourP.row {t : Mat} (h : TourP t) {a : Nat} (ha : a < t.length) : (t.getD a []).length = t.length := h.2.1 _ (getD_mem [] ha)
theorem TourP.cols {t : Mat} (h : TourP t) : colsN t = t.length := h.row (by have := h.1; omega)
theorem TourP.mat {t : Mat} (h : TourP t) : MatP t := by
  refine ⟨h.1, fun r hr => ⟨by rw [h.cols]; exact h.2.1 r hr, by rw [h.2.1 r hr]; exact h.1, fun x hx => ?_⟩⟩
  obtain ⟨a, ha, rfl⟩ := List.getElem_of_mem hr
  obtain ⟨b, hb, rfl⟩ := List.getElem_of_mem hx
  have := (h.2.2 a b ha (by rw [← h.2.1 _ hr]; exact hb)).1
  unfold ent at this
  simpa [List.getD_eq_getElem?_getD, ha, hb] using this
def scAt (t : Mat) (a : Nat) : Int := total ((List.range t.length).map fun b => ent t a b)
theorem rsum_scAt {t : Mat} (h : TourP t) : rsum t = (List.range t.length).map (scAt t) := by
  apply List.ext_getElem
  · simp [rsum]
  · intro i h1 h2
    have hi : i < t.length := by simpa [rsum] using h1
    have hr := h.2.1 t[i] (List.getElem_mem hi)
    have e2 : (rsum t)[i] = total t[i] := by simp [rsum]
    rw [e2, List.getElem_map, List.getElem_range, total_as_range t[i], hr]
    unfold scAt ent
    simp [List.getD_eq_getElem?_getD, hi]
def dsum (t : Mat) (I : List Nat) : Int := total (I.map fun a => total (I.map fun b => ent t a b))
theorem total_map_perm {f : Nat → Int} {a b : List Nat} (h : a.Perm b) : total (a.map f) = total (b.map f) := total_perm (h.map _)
theorem total_ones {α : Type} {f : α → Int} : ∀ {l : List α}, (∀ x ∈ l, f x = 1) → total (l.map f) = l.length
  | [], _ => rfl
  | x :: l, h => by
    have h1 := total_ones (l := l) fun y hy => h y (List.mem_cons_of_mem _ hy)
    rw [List.map_cons, total_cons, h1, h x List.mem_cons_self, List.length_cons]; omega
theorem tri_step (k : Nat) : ((k + 1 : Nat) : Int) * (((k + 1 : Nat) : Int) - 1) / 2 = (k : Int) * ((k : Int) - 1) / 2 + k := by
  have : ((k + 1 : Nat) : Int) * (((k + 1 : Nat) : Int) - 1) = (k : Int) * ((k : Int) - 1) + k * 2 := by
    rw [show ((k + 1 : Nat) : Int) - 1 = k from by omega, Int.natCast_add, Int.add_mul, Int.mul_sub]; omega
  rw [this, Int.add_mul_ediv_right _ _ (by decide)]
theorem dsum_tri {t : Mat} (h : TourP t) : ∀ {I : List Nat}, I.Nodup → (∀ a ∈ I, a < t.length) → dsum t I = (I.length : Int) * ((I.length : Int) - 1) / 2
  | [], _, _ => rfl
  | a :: I, hn, hl => by
    rw [List.nodup_cons] at hn
    have ih := dsum_tri h hn.2 fun b hb => hl b (List.mem_cons_of_mem _ hb)
    have ha := hl a List.mem_cons_self
    have e : dsum t (a :: I) = ent t a a + total (I.map fun b => ent t a b) + total (I.map fun b => ent t b a + total (I.map fun c => ent t b c)) := by
      unfold dsum; simp only [List.map_cons, total_cons]
    have e2 := total_map_add (fun b => ent t b a) (fun b => total (I.map fun c => ent t b c)) I
    have e3 := total_map_add (fun b => ent t a b) (fun b => ent t b a) I
    have e4 : total (I.map fun b => ent t a b + ent t b a) = I.length := total_ones fun b hb => (h.2.2 a b ha (hl b (List.mem_cons_of_mem _ hb))).2.1 (fun e => hn.1 (e ▸ hb))
    have e5 := (h.2.2 a a ha ha).2.2 rfl
    have e6 : total (I.map fun b => total (I.map fun c => ent t b c)) = dsum t I := rfl
    rw [List.length_cons, tri_step, ← ih]
    omega
theorem perm_split {n : Nat} {I : List Nat} (hn : I.Nodup) (hl : ∀ a ∈ I, a < n) : ∃ J, (I ++ J).Perm (List.range n) := by
  refine ⟨(List.range n).filter fun a => !decide (a ∈ I), nodup_perm ?_ List.nodup_range fun x => ?_⟩
  · rw [List.nodup_append]
    refine ⟨hn, List.nodup_range.filter _, fun a ha b hb => ?_⟩
    have := (List.mem_filter.1 hb).2
    intro e; subst e; simp [ha] at this
  · simp only [List.mem_append, List.mem_filter, List.mem_range]
    by_cases hx : x ∈ I
    · simp [hx, hl x hx]
    · simp [hx]
theorem scAt_split {t : Mat} {I J : List Nat} (hp : (I ++ J).Perm (List.range t.length)) (a : Nat) : scAt t a = total (I.map fun b => ent t a b) + total (J.map fun b => ent t a b) := by
  unfold scAt; rw [← total_map_perm hp, List.map_append, total_append]
def outs (t : Mat) (I J : List Nat) : Int := total (I.map fun a => total (J.map fun b => ent t a b))
theorem set_sum {t : Mat} (h : TourP t) {I J : List Nat} (hp : (I ++ J).Perm (List.range t.length)) : total (I.map (scAt t)) = (I.length : Int) * ((I.length : Int) - 1) / 2 + outs t I J := by
  have hn : (I ++ J).Nodup := hp.nodup_iff.2 List.nodup_range
  have hl : ∀ a ∈ I, a < t.length := fun a ha => List.mem_range.1 (hp.mem_iff.1 (List.mem_append_left _ ha))
  rw [← dsum_tri h (List.nodup_append.1 hn).1 hl]
  unfold dsum outs
  rw [← total_map_add]
  congr 1
  exact List.map_congr_left fun a _ => scAt_split hp a
theorem total_nn {α : Type} {f : α → Int} : ∀ {l : List α}, (∀ x ∈ l, 0 ≤ f x) → 0 ≤ total (l.map f) ∧ (total (l.map f) = 0 → ∀ x ∈ l, f x = 0)
  | [], _ => ⟨Int.le_refl _, fun _ _ h => by cases h⟩
  | x :: l, h => by
    have h1 := total_nn (l := l) fun y hy => h y (List.mem_cons_of_mem _ hy)
    have h2 := h x List.mem_cons_self
    rw [List.map_cons, total_cons]
    refine ⟨by omega, fun e y hy => ?_⟩
    rcases List.mem_cons.1 hy with rfl | hy
    · omega
    · exact h1.2 (by omega) y hy
theorem outs_nn {t : Mat} (h : TourP t) {I J : List Nat} (hI : ∀ a ∈ I, a < t.length) (hJ : ∀ a ∈ J, a < t.length) : 0 ≤ outs t I J ∧ (outs t I J = 0 ↔ ∀ a ∈ I, ∀ b ∈ J, ent t a b = 0) := by
  have hin : ∀ a ∈ I, 0 ≤ total (J.map fun b => ent t a b) ∧ (total (J.map fun b => ent t a b) = 0 → ∀ b ∈ J, ent t a b = 0) := fun a ha => total_nn fun b hb => (h.2.2 a b (hI a ha) (hJ b hb)).1.1
  have h1 := total_nn (f := fun a => total (J.map fun b => ent t a b)) (l := I) fun a ha => (hin a ha).1
  refine ⟨h1.1, fun e a ha b hb => (hin a ha).2 (h1.2 e a ha) b hb, fun e => ?_⟩
  unfold outs
  have : I.map (fun a => total (J.map fun b => ent t a b)) = I.map fun _ => (0 : Int) := List.map_congr_left fun a ha => by
    rw [show J.map (fun b => ent t a b) = J.map fun _ => (0 : Int) from List.map_congr_left fun b hb => e a ha b hb]
    clear h1 hin
    induction J with
    | nil => rfl
    | cons x J ih => rw [List.map_cons, total_cons, ih (fun a ha => hJ a (List.mem_cons_of_mem _ ha)) fun a ha b hb => e a ha b (List.mem_cons_of_mem _ hb)]; rfl
  rw [this]
  clear h1 hin e this
  induction I with
  | nil => rfl
  | cons x I ih => rw [List.map_cons, total_cons, ih fun a ha => hI a (List.mem_cons_of_mem _ ha)]; rfl
/-- the least ones of a sorted list have the least sum -/
theorem take_least : ∀ {s : List Int}, s.Pairwise (· ≤ ·) → ∀ {q q' : List Int}, (q ++ q').Perm s → total (s.take q.length) ≤ total q
  | [], _, q, q', hp => by
    have : q = [] := by have := hp.length_eq; cases q; rfl; simp at this
    subst this; exact Int.le_refl _
  | x :: s, hs, [], q', hp => Int.le_refl _
  | x :: s, hs, y :: q, q', hp => by
    rw [List.pairwise_cons] at hs
    rw [List.length_cons, List.take_succ_cons, total_cons]
    by_cases hx : x ∈ y :: q
    · have h1 := List.perm_cons_erase hx
      have h2 : ((y :: q).erase x ++ q').Perm s := ((h1.symm.append_right q').trans hp).cons_inv
      have h3 := take_least hs.2 h2
      have h4 := total_perm h1
      have h5 := h1.length_eq
      simp only [List.length_cons] at h5
      rw [total_cons x] at h4
      rw [show ((y :: q).erase x).length = q.length from by omega] at h3
      omega
    · have hx2 : x ∈ q' := by
        have := hp.mem_iff.2 (List.mem_cons_self (a := x) (l := s))
        rw [List.mem_append] at this; exact this.resolve_left hx
      have h1 := List.perm_cons_erase hx2
      have h2 : (q ++ (y :: q'.erase x)).Perm s := by
        have h3 : (x :: (q ++ (y :: q'.erase x))).Perm (x :: s) := by
          refine .trans ?_ hp
          refine .trans ?_ ((List.Perm.append_left (y :: q) h1.symm))
          rw [List.cons_append]
          refine .trans (.cons x List.perm_middle) ?_
          refine .trans (.swap _ _ _) (.cons y ?_)
          exact List.perm_middle.symm
        exact h3.cons_inv
      have h3 := take_least hs.2 h2
      have hy : y ∈ x :: s := hp.mem_iff.1 (by simp)
      have : x ≤ y := by
        rcases List.mem_cons.1 hy with rfl | hy
        · omega
        · exact hs.1 y hy
      rw [total_cons]; omega
theorem landau_get {t : Mat} (h : TourP t) (k : Nat) (hk : k ≤ t.length) : ∃ I J : List Nat, (I ++ J).Perm (List.range t.length) ∧ I.length = k ∧ landau (rsum t) k = outs t I J := by
  obtain ⟨p, h1, h2⟩ := perm_map_exists (asc_perm (rsum t)).symm (List.range t.length) (rsum_scAt h).symm
  have hl := h1.length_eq
  rw [List.length_range] at hl
  refine ⟨p.take k, p.drop k, by rw [List.take_append_drop]; exact h1, by rw [List.length_take]; omega, ?_⟩
  have h3 := set_sum h (I := p.take k) (J := p.drop k) (by rw [List.take_append_drop]; exact h1)
  unfold landau
  rw [← h2, ← List.map_take, h3, show (p.take k).length = k from by rw [List.length_take]; omega]
  omega
theorem landau_set {t : Mat} (h : TourP t) {I J : List Nat} (hp : (I ++ J).Perm (List.range t.length)) : landau (rsum t) I.length ≤ outs t I J := by
  have h1 := take_least (asc_sorted (rsum t)) (q := I.map (scAt t)) (q' := J.map (scAt t)) (by
    rw [← List.map_append]
    refine (hp.map _).trans ?_
    rw [← rsum_scAt h]; exact (asc_perm _).symm)
  rw [List.length_map, set_sum h hp] at h1
  unfold landau; omega
theorem perm_lt {n : Nat} {I J : List Nat} (hp : (I ++ J).Perm (List.range n)) : (∀ a ∈ I, a < n) ∧ ∀ a ∈ J, a < n :=
  ⟨fun _ ha => List.mem_range.1 (hp.mem_iff.1 (List.mem_append_left _ ha)), fun _ ha => List.mem_range.1 (hp.mem_iff.1 (List.mem_append_right _ ha))⟩
theorem tour_scores {t : Mat} (h : TourP t) : ScP (rsum t) := by
  rw [scp_iff, rsum_len]
  refine ⟨⟨by rw [rsum_len]; exact h.1.1, by rw [rsum_len]; exact h.1.2, fun x hx => ?_⟩, fun k _ hk => ?_, ?_⟩
  · rw [rsum_scAt h] at hx
    obtain ⟨a, ha, rfl⟩ := List.mem_map.1 hx
    rw [List.mem_range] at ha
    rw [rsum_len]
    obtain ⟨J, hJ⟩ := perm_split (I := [a]) (n := t.length) (by simp) (by simpa using ha)
    rw [scAt_split hJ a]
    have h1 := (h.2.2 a a ha ha).2.2 rfl
    have h2 := total_bd01 (l := J.map fun b => ent t a b) fun x hx => by
      obtain ⟨b, hb, rfl⟩ := List.mem_map.1 hx
      exact (h.2.2 a b ha ((perm_lt hJ).2 b hb)).1
    have h3 := hJ.length_eq
    rw [List.length_map] at h2
    simp only [List.length_append, List.length_cons, List.length_nil, List.length_range] at h3
    have h4 : total ([a].map fun b => ent t a b) = ent t a a := by simp [total]
    omega
  · obtain ⟨I, J, h1, _, h2⟩ := landau_get h k hk
    rw [h2]; exact (outs_nn h (perm_lt h1).1 (perm_lt h1).2).1
  · obtain ⟨I, J, h1, h3, h2⟩ := landau_get h t.length (Nat.le_refl _)
    have hJ : J = [] := by have := h1.length_eq; rw [List.length_append, List.length_range, h3] at this; exact List.length_eq_zero_iff.1 (by omega)
    rw [h2, hJ]; exact (outs_nn h (perm_lt h1).1 (fun _ ha => by cases ha)).2.2 (fun _ _ _ hb => by cases hb)
/-- what is closed under being beaten -/
def Closed (t : Mat) (I : List Nat) : Prop := ∀ a ∈ I, ∀ b, b < t.length → ent t a b = 1 → b ∈ I
theorem strong_closed {t : Mat} (h : TourP t) : StrongP (rsum t) ↔ ∀ I : List Nat, I.Nodup → (∀ a ∈ I, a < t.length) → Closed t I → I ≠ [] → I.length = t.length := by
  rw [strong_iff, rsum_len]
  constructor
  · rintro ⟨hs, h1⟩ I hn hl hc h0
    obtain ⟨J, hJ⟩ := perm_split hn hl
    have h2 := landau_set h hJ
    have h3 : outs t I J = 0 := (outs_nn h (perm_lt hJ).1 (perm_lt hJ).2).2.2 fun a ha b hb => by
      have hb2 := (perm_lt hJ).2 b hb
      have h4 := (h.2.2 a b (hl a ha) hb2).1
      have h5 : ent t a b ≠ 1 := fun e => by
        have := hc a ha b hb2 e
        have hnd := hJ.nodup_iff.2 List.nodup_range
        exact (List.nodup_append.1 hnd).2.2 b this b hb rfl
      omega
    have h4 := hJ.length_eq
    rw [List.length_append, List.length_range] at h4
    have h5 : 0 < I.length := List.length_pos_iff.2 h0
    have h6 := (scp_iff.1 hs).2.1 I.length h5 (by rw [rsum_len]; omega)
    by_cases hlt : I.length < t.length
    · exact absurd (by omega) (h1 I.length h5 hlt)
    · omega
  · intro hc
    refine ⟨tour_scores h, fun k h1 h2 e => ?_⟩
    obtain ⟨I, J, hp, hI, h3⟩ := landau_get h k (by omega)
    have h4 := (outs_nn h (perm_lt hp).1 (perm_lt hp).2).2.1 (by omega)
    have hnd := hp.nodup_iff.2 List.nodup_range
    have := hc I (List.nodup_append.1 hnd).1 (perm_lt hp).1 (fun a ha b hb hab => by
      have := hp.mem_iff.2 (List.mem_range.2 hb)
      rcases List.mem_append.1 this with h5 | h5
      · exact h5
      · have := h4 a ha b h5; omega) (by intro e2; subst e2; simp at hI; omega)
    omega
theorem tr_ent {t : Mat} (h : TourP t) {a b : Nat} (ha : a < t.length) (hb : b < t.length) : ent (trM t) a b = ent t b a := by
  unfold ent; rw [tr_get (by rw [h.cols]; exact ha)]
  simp [List.getD_eq_getElem?_getD, hb]
theorem tr_tour {t : Mat} (h : TourP t) : TourP (trM t) := by
  have hl : (trM t).length = t.length := by rw [tr_len, h.cols]
  refine ⟨by rw [hl]; exact h.1, fun r hr => ?_, fun a b ha hb => ?_⟩
  · obtain ⟨j, hj, rfl⟩ := List.mem_map.1 hr
    rw [hl]; simp
  · rw [hl] at ha hb
    rw [tr_ent h ha hb, tr_ent h hb ha]
    refine ⟨(h.2.2 b a hb ha).1, fun e => (h.2.2 b a hb ha).2.1 (fun e2 => e e2.symm), fun e => (h.2.2 b a hb ha).2.2 e.symm⟩
theorem tour_other {t : Mat} (h : TourP t) {k : Nat} (hk : k < t.length) : (rsum (trM t)).getD k 0 + (rsum t).getD k 0 = (t.length : Int) - 1 := by
  have hl : (trM t).length = t.length := by rw [tr_len, h.cols]
  rw [rsum_scAt (tr_tour h), rsum_scAt h, hl]
  have e1 : ((List.range t.length).map (scAt (trM t))).getD k 0 = scAt (trM t) k := by simp [List.getD_eq_getElem?_getD, hk]
  have e2 : ((List.range t.length).map (scAt t)).getD k 0 = scAt t k := by simp [List.getD_eq_getElem?_getD, hk]
  rw [e1, e2]
  obtain ⟨J, hJ⟩ := perm_split (I := [k]) (n := t.length) (by simp) (by simpa using hk)
  rw [scAt_split hJ k, scAt_split (t := trM t) (by rw [hl]; exact hJ) k]
  have h1 := (h.2.2 k k hk hk).2.2 rfl
  have e3 : total ([k].map fun b => ent t k b) = ent t k k := by simp [total]
  have e4 : total ([k].map fun b => ent (trM t) k b) = ent t k k := by simp [total, tr_ent h hk hk]
  have hnd := hJ.nodup_iff.2 List.nodup_range
  have e5 := total_map_add (fun b => ent (trM t) k b) (fun b => ent t k b) J
  have e6 : total (J.map fun b => ent (trM t) k b + ent t k b) = J.length := total_ones fun b hb => by
    have hb2 := (perm_lt hJ).2 b hb
    rw [tr_ent h hk hb2]
    exact (h.2.2 b k hb2 hk).2.1 (fun e => (List.nodup_append.1 hnd).2.2 k (by simp) b hb e.symm)
  have h3 := hJ.length_eq
  simp only [List.length_append, List.length_cons, List.length_nil, List.length_range] at h3
  omega
theorem tour_total {t : Mat} (h : TourP t) : 2 * total (rsum t) = (t.length : Int) * ((t.length : Int) - 1) := by
  have h1 := (scp_iff.1 (tour_scores h)).2.2
  rw [landau_last, rsum_len] at h1
  have : ∀ n : Nat, n ≤ 5 → 2 * ((n : Int) * ((n : Int) - 1) / 2) = (n : Int) * ((n : Int) - 1) := by decide
  have := this t.length h.1.2
  omega
theorem rsum_take {m : Mat} {k : Nat} (h : k < m.length) : rsum (m.take (k + 1)) = rsum (m.take k) ++ [total (m.getD k [])] := by
  rw [take_succ [] h]; simp [rsum]
def trTo (m : Mat) (k : Nat) : Mat := (List.range k).map fun j => m.map fun r => r.getD j 0
def colTo (m : Mat) (k i : Nat) : List Int := (m.take i).map fun r => r.getD k 0
theorem trTo_succ (m : Mat) (k : Nat) : trTo m (k + 1) = trTo m k ++ [m.map fun r => r.getD k 0] := map_range_succ _ _
theorem trTo_len (m : Mat) (k : Nat) : (trTo m k).length = k := by simp [trTo]
theorem colTo_succ {m : Mat} {k i : Nat} (h : i < m.length) : colTo m k (i + 1) = colTo m k i ++ [(m.getD i []).getD k 0] := by
  unfold colTo; rw [take_succ [] h]; simp
theorem colTo_len {m : Mat} {k i : Nat} (h : i ≤ m.length) : (colTo m k i).length = i := by simp [colTo]; omega
theorem colTo_end {m : Mat} {k i : Nat} (h : m.length ≤ i) : colTo m k i = m.map fun r => r.getD k 0 := by unfold colTo; rw [List.take_of_length_le h]
def M01 (b : Nat) (m : Mat) : Prop := ∀ r ∈ m, r.length = b ∧ ∀ x ∈ r, 0 ≤ x ∧ x ≤ 1
theorem M01.small {b : Nat} {m : Mat} (h : M01 b m) (hb : b ≤ 100) : ∀ r ∈ m, Small r := fun r hr => ⟨by rw [(h r hr).1]; exact hb, fun x hx => by have := (h r hr).2 x hx; omega⟩
theorem M01.sm {b : Nat} {m : Mat} (h : M01 b m) (hb : b ≤ 100) : Sm (rsum m) := fun x hx => by
  obtain ⟨r, hr, rfl⟩ := List.mem_map.1 hx
  have h1 := h r hr
  have := total_bd01 h1.2
  omega
theorem M01.cols {b : Nat} {m : Mat} (h : M01 b m) (h1 : 1 ≤ m.length) : colsN m = b := (h _ (getD_mem [] (by omega))).1
theorem M01.tr {b : Nat} {m : Mat} (h : M01 b m) : M01 m.length (trM m) := fun r hr => by
  obtain ⟨j, _, rfl⟩ := List.mem_map.1 hr
  refine ⟨by simp, fun x hx => ?_⟩
  obtain ⟨r, hr, rfl⟩ := List.mem_map.1 hx
  exact getD_or (P := fun x => 0 ≤ x ∧ x ≤ 1) (h r hr).2 (by omega) j
theorem M01.len_at {b : Nat} {m : Mat} (h : M01 b m) {i : Nat} (hi : i < m.length) : (m.getD i []).length = b := (h _ (getD_mem [] hi)).1
theorem M01.set1 {b : Nat} {m : Mat} (h : M01 b m) {i k : Nat} (hi : i < m.length) : M01 b (m.set i ((m.getD i []).set k 1)) := fun r hr => by
  rcases List.mem_or_eq_of_mem_set hr with h1 | rfl
  · exact h r h1
  · have h2 := h _ (getD_mem (xs := m) [] hi)
    refine ⟨by rw [List.length_set]; exact h2.1, fun x hx => ?_⟩
    rcases List.mem_or_eq_of_mem_set hx with h3 | rfl
    · exact h2.2 x h3
    · omega
theorem gale_last {r c : List Int} (h : ValidM r c) : (galeL r c).getD (r.length - 1) 0 = total c - total r := by
  have h1 := h.1.1
  have e : (galeL r c).getD (r.length - 1) 0 = galeAt r c (r.length - 1) := by simp [galeL, List.getD_eq_getElem?_getD, show r.length - 1 < r.length by omega]
  rw [e]; unfold galeAt
  rw [show r.length - 1 + 1 = r.length from by omega, List.take_of_length_le (by rw [fall_length]; exact Nat.le_refl _), total_fall, minsum_all (fun x hx => (h.2.2.2 x hx).2)]
end Go.Plain
