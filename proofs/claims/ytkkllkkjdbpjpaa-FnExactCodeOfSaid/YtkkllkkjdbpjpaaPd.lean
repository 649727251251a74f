/- Plain lists of degrees: falling lists, slacks, corrected conjugates, and small laws on them. Conditions: those of each theorem. -/
import Derived.Test.YtkkllkkjdbpjpaaPo
namespace Go.Plain
/-! ### falling lists -/
theorem sorted_unique : ∀ {a b : List Int}, a.Perm b → a.Pairwise (· ≥ ·) → b.Pairwise (· ≥ ·) → a = b
  | [], b, h, _, _ => (List.nil_perm.1 h).symm
  | x :: a, [], h, _, _ => by simp at h
  | x :: a, y :: b, h, ha, hb => by
    have h1 := List.pairwise_cons.1 ha
    have h2 := List.pairwise_cons.1 hb
    have e : x = y := by
      rcases List.mem_cons.1 (h.mem_iff.1 (List.mem_cons_self (a := x) (l := a))) with e | e
      · exact e
      · rcases List.mem_cons.1 (h.mem_iff.2 (List.mem_cons_self (a := y) (l := b))) with e' | e'
        · exact e'.symm
        · have := h1.1 _ e'; have := h2.1 _ e; omega
    subst e
    rw [sorted_unique h.cons_inv h1.2 h2.2]
def posG (out : List Int) (x : Int) : Nat := (out.takeWhile (fun y => decide (x ≤ y))).length
def insG (out : List Int) (x : Int) : List Int := out.take (posG out x) ++ x :: out.drop (posG out x)
def fall (xs : List Int) : List Int := xs.foldl insG []
theorem posG_le (out : List Int) (x : Int) : posG out x ≤ out.length := by
  unfold posG
  exact (List.takeWhile_sublist _).length_le
theorem posG_eq {x : Int} : ∀ {out : List Int} {k : Nat}, k ≤ out.length → (∀ y ∈ out.take k, x ≤ y) → (k < out.length → ¬ x ≤ out.getD k 0) → k = posG out x
  | [], k, h, _, _ => by simp [posG] at *; omega
  | y :: out, 0, _, _, h3 => by
    have := h3 (by simp)
    simp only [List.getD_cons_zero] at this
    simp [posG, this]
  | y :: out, k + 1, h1, h2, h3 => by
    have hy : x ≤ y := h2 y (by simp)
    have ih := posG_eq (x := x) (out := out) (k := k) (by simpa using h1) (fun u hu => h2 u (by simp [hu])) (fun h => by have := h3 (by simpa using h); simpa using this)
    unfold posG at ih ⊢
    rw [List.takeWhile_cons, if_pos (by simpa using hy), List.length_cons, ← ih]
theorem fall_take {xs : List Int} {k : Nat} (h : k < xs.length) : fall (xs.take (k + 1)) = insG (fall (xs.take k)) (xs.getD k 0) := by
  unfold fall
  rw [take_succ 0 h, List.foldl_append]; rfl
theorem insG_perm (out : List Int) (x : Int) : (insG out x).Perm (x :: out) := by
  unfold insG
  refine List.perm_middle.trans (.cons _ ?_)
  rw [List.take_append_drop]
theorem insG_sorted {out : List Int} (x : Int) (h : out.Pairwise (· ≥ ·)) : (insG out x).Pairwise (· ≥ ·) := by
  unfold insG
  have hsp : out.take (posG out x) ++ out.drop (posG out x) = out := List.take_append_drop _ _
  have hle : ∀ y ∈ out.take (posG out x), x ≤ y := by
    intro y hy
    have e : out.take (posG out x) = out.takeWhile (fun y => decide (x ≤ y)) := by
      unfold posG
      exact (List.prefix_iff_eq_take.1 (List.takeWhile_prefix _)).symm
    rw [e] at hy
    have := List.all_takeWhile (l := out) (p := fun y => decide (x ≤ y))
    rw [List.all_eq_true] at this
    simpa using this y hy
  have hgt : ∀ y ∈ out.drop (posG out x), y ≤ x := by
    have key : ∀ (l : List Int), l.Pairwise (· ≥ ·) → ∀ y ∈ l.drop (posG l x), y ≤ x := by
      intro l
      induction l with
      | nil => intro _ y hy; simp at hy
      | cons u l ih =>
        intro hl y hy
        have hl' := List.pairwise_cons.1 hl
        unfold posG at hy ih
        by_cases hu : x ≤ u
        · rw [List.takeWhile_cons, if_pos (by simpa using hu), List.length_cons, List.drop_succ_cons] at hy
          exact ih hl'.2 y hy
        · rw [List.takeWhile_cons, if_neg (by simpa using hu)] at hy
          simp only [List.length_nil, List.drop_zero] at hy
          rcases List.mem_cons.1 hy with rfl | hy
          · omega
          · have := hl'.1 y hy; omega
    exact key out h
  rw [← hsp] at h
  have h' := List.pairwise_append.1 h
  refine List.pairwise_append.2 ⟨h'.1, List.pairwise_cons.2 ⟨fun y hy => hgt y hy, h'.2.1⟩, ?_⟩
  intro y hy u hu
  rcases List.mem_cons.1 hu with rfl | hu
  · exact hle y hy
  · exact h'.2.2 y hy u hu
theorem fold_spec : ∀ (xs out : List Int), out.Pairwise (· ≥ ·) → (xs.foldl insG out).Perm (xs ++ out) ∧ (xs.foldl insG out).Pairwise (· ≥ ·)
  | [], out, h => ⟨.refl _, h⟩
  | x :: xs, out, h => by
    have ih := fold_spec xs (insG out x) (insG_sorted x h)
    refine ⟨ih.1.trans ?_, ih.2⟩
    refine (List.Perm.append_left xs (insG_perm out x)).trans ?_
    exact List.perm_middle
theorem fall_perm (xs : List Int) : (fall xs).Perm xs := by have := (fold_spec xs [] .nil).1; simpa [fall] using this
theorem fall_sorted (xs : List Int) : (fall xs).Pairwise (· ≥ ·) := (fold_spec xs [] .nil).2
theorem fall_length (xs : List Int) : (fall xs).length = xs.length := (fall_perm xs).length_eq
theorem fall_mem {xs : List Int} {x : Int} : x ∈ fall xs ↔ x ∈ xs := (fall_perm xs).mem_iff
/-- what the library's sort leaves -/
def asc (xs : List Int) : List Int := xs.mergeSort fun x y => decide (x ≤ y)
theorem asc_perm (xs : List Int) : (asc xs).Perm xs := List.mergeSort_perm _ _
theorem asc_length (xs : List Int) : (asc xs).length = xs.length := (asc_perm xs).length_eq
theorem asc_sorted (xs : List Int) : (asc xs).Pairwise (· ≤ ·) := by
  have := List.pairwise_mergeSort (le := fun x y : Int => decide (x ≤ y)) (by intro a b c; simp; omega) (by intro a b; simp; omega) xs
  exact this.imp (by intro a b h; simpa using h)
theorem fall_asc (xs : List Int) : (asc xs).reverse = fall xs := by
  refine sorted_unique ((List.reverse_perm _).trans ((asc_perm xs).trans (fall_perm xs).symm)) ?_ (fall_sorted xs)
  rw [List.pairwise_reverse]
  exact asc_sorted xs
theorem isort_asc (xs : List Int) : isort 0 (fun a b => decide (a < b)) xs = asc xs := by
  have h := isort_spec (z := (0 : Int)) (lt := fun a b => decide (a < b)) (R := (· ≤ ·)) (xs := xs) (fun a b c h1 h2 => Int.le_trans h1 h2) (by
    rw [List.pairwise_iff_forall_sublist]
    intro a b _
    constructor
    · intro h; simp at h; omega
    · intro h; simp at h; omega)
  have e := sorted_unique (a := (isort 0 (fun a b => decide (a < b)) xs).reverse) (b := (asc xs).reverse) ((List.reverse_perm _).trans ((h.1.trans (asc_perm xs).symm).trans (List.reverse_perm _).symm)) (by rw [List.pairwise_reverse]; exact h.2) (by rw [List.pairwise_reverse]; exact asc_sorted xs)
  have := congrArg List.reverse e
  simpa using this
theorem Valid.fall {d : List Int} (h : Valid d) : Valid (fall d) := ⟨by rw [fall_length]; exact h.1, fun x hx => by rw [fall_length]; exact h.2 x (fall_mem.1 hx)⟩
theorem total_perm {a b : List Int} (h : a.Perm b) : total a = total b := by
  unfold total
  induction h with
  | nil => rfl
  | cons x _ ih => simp [ih]
  | swap x y l => simp only [List.sum_cons]; omega
  | trans _ _ h1 h2 => exact h1.trans h2
theorem total_fall (d : List Int) : total (fall d) = total d := total_perm (fall_perm d)
/-! ### turning a list round -/
def revTo (xs : List Int) : Nat → List Int
  | 0 => xs
  | i + 1 => ((revTo xs i).set i ((revTo xs i).getD (xs.length - 1 - i) 0)).set (xs.length - 1 - i) ((revTo xs i).getD i 0)
theorem revTo_length (xs : List Int) : ∀ i, (revTo xs i).length = xs.length
  | 0 => rfl
  | i + 1 => by simp [revTo, revTo_length xs i]
theorem getD_set {xs : List Int} {i j : Nat} {v : Int} (hi : i < xs.length) : (xs.set i v).getD j 0 = if i = j then v else xs.getD j 0 := by
  simp only [List.getD_eq_getElem?_getD, List.getElem?_set]
  split
  · rename_i h; subst h; simp [hi]
  · rfl
theorem revTo_get (xs : List Int) : ∀ i, 2 * i ≤ xs.length → ∀ q, q < xs.length → (revTo xs i).getD q 0 = if q < i ∨ xs.length ≤ q + i then xs.getD (xs.length - 1 - q) 0 else xs.getD q 0
  | 0, _, q, hq => by rw [if_neg (by omega)]; rfl
  | i + 1, h, q, hq => by
    have ih := revTo_get xs i (by omega)
    rw [revTo, getD_set (by simp [revTo_length]; omega), getD_set (by simp [revTo_length]; omega)]
    by_cases h1 : xs.length - 1 - i = q
    · rw [if_pos h1, ih i (by omega), if_neg (by omega), if_pos (by omega)]
      congr 1; omega
    · rw [if_neg h1]
      by_cases h2 : i = q
      · rw [if_pos h2, ih _ (by omega), if_neg (by omega), if_pos (by omega)]
        congr 1; omega
      · rw [if_neg h2, ih q hq]
        by_cases h3 : q < i ∨ xs.length ≤ q + i
        · rw [if_pos h3, if_pos (by omega)]
        · rw [if_neg h3, if_neg (by omega)]
theorem revTo_end {xs : List Int} {i : Nat} (h1 : 2 * i ≤ xs.length) (h2 : xs.length ≤ 2 * i + 1) : revTo xs i = xs.reverse := by
  apply List.ext_getElem (by simp [revTo_length])
  intro q hq hq'
  rw [revTo_length] at hq
  have h := revTo_get xs i h1 q hq
  have e1 : (revTo xs i).getD q 0 = (revTo xs i)[q]'(by rw [revTo_length]; exact hq) := by simp [List.getD_eq_getElem?_getD, revTo_length, hq]
  rw [e1] at h
  rw [h, List.getElem_reverse]
  by_cases h3 : q < i ∨ xs.length ≤ q + i
  · rw [if_pos h3]; simp [List.getD_eq_getElem?_getD, show xs.length - 1 - q < xs.length by omega]
  · rw [if_neg h3]
    have : q = xs.length - 1 - q := by omega
    have e2 : xs.getD q 0 = xs[q] := by simp [hq]
    rw [e2]; congr 1
/-! ### lists made place by place -/
theorem made_step {f : Nat → Int} {n k : Nat} (h : k < n) : ((List.range k).map f ++ List.replicate (n - k) 0).set k (f k) = (List.range (k + 1)).map f ++ List.replicate (n - (k + 1)) 0 := by
  have e : n - k = (n - (k + 1)) + 1 := by omega
  rw [e, List.replicate_succ, List.set_append_right _ _ (by simp)]
  simp [List.range_succ]
def eachL (xs : List Int) (f : Nat → Int) : List Int := if Valid xs then (List.range xs.length).map f else []
theorem eachL_len (xs : List Int) (f : Nat → Int) : (eachL xs f).length ≤ 7 := by
  unfold eachL; split
  · rename_i h; simpa using h.1
  · simp
def sortedL (xs : List Int) : List Int := if Valid xs then fall xs else []
theorem sortedL_len (xs : List Int) : (sortedL xs).length ≤ 7 := by
  unfold sortedL; split
  · rename_i h; rw [fall_length]; exact h.1
  · simp
def countI (p : Int → Bool) (xs : List Int) : Int := ((xs.countP p : Nat) : Int)
theorem countI_take {p : Int → Bool} {xs : List Int} {i : Nat} (h : i < xs.length) : countI p (xs.take (i + 1)) = countI p (xs.take i) + (if p (xs.getD i 0) = true then 1 else 0) := by
  rw [take_succ 0 h]
  unfold countI
  rw [List.countP_append]
  by_cases hc : p (xs.getD i 0) = true
  · have e : [xs.getD i 0].countP p = 1 := by rw [List.countP_cons, List.countP_nil, if_pos hc]
    rw [if_pos hc, e]; omega
  · have e : [xs.getD i 0].countP p = 0 := by rw [List.countP_cons, List.countP_nil, if_neg hc]
    rw [if_neg hc, e]; omega
theorem countI_bd (p : Int → Bool) (xs : List Int) : 0 ≤ countI p xs ∧ countI p xs ≤ xs.length := by
  unfold countI; have := List.countP_le_length (p := p) (l := xs); omega
theorem prod_bd {k : Nat} (h : k ≤ 100) : -1 ≤ (k : Int) * ((k : Int) - 1) ∧ (k : Int) * ((k : Int) - 1) ≤ 10000 := by
  rcases k with _ | k
  · simp
  · have e : ((k + 1 : Nat) : Int) - 1 = (k : Int) := by omega
    rw [e, ← Int.natCast_mul]
    have : (k + 1) * k ≤ 100 * 100 := Nat.mul_le_mul h (by omega)
    omega
theorem prod_bd2 {k : Nat} (h : k ≤ 200) : -1 ≤ (k : Int) * ((k : Int) - 1) ∧ (k : Int) * ((k : Int) - 1) ≤ 40000 := by
  rcases k with _ | k
  · simp
  · have e : ((k + 1 : Nat) : Int) - 1 = (k : Int) := by omega
    rw [e, ← Int.natCast_mul]
    have : (k + 1) * k ≤ 200 * 200 := Nat.mul_le_mul h (by omega)
    omega
/-! ### slacks -/
def slackTo (s : List Int) (k : Nat) : Nat → Int
  | 0 => (k : Int) * ((k : Int) - 1)
  | i + 1 => slackTo s k i + (if i < k then - s.getD i 0 else min (s.getD i 0) (k : Int))
def slackAt (s : List Int) (k : Nat) : Int := slackTo s k s.length
/-- the slacks of a falling list -/
def slacksL (s : List Int) : List Int := (List.range s.length).map (fun i => slackAt s (i + 1))
def minsum (xs : List Int) (k : Int) : Int := total (xs.map (fun x => min x k))
theorem total_append (a b : List Int) : total (a ++ b) = total a + total b := by simp [total]
theorem total_cons (x : Int) (a : List Int) : total (x :: a) = x + total a := by simp [total]
theorem slackTo_le {s : List Int} {k : Nat} : ∀ {i : Nat}, i ≤ k → i ≤ s.length → slackTo s k i = (k : Int) * ((k : Int) - 1) - total (s.take i)
  | 0, _, _ => by simp [slackTo, total]
  | i + 1, h, h2 => by rw [slackTo, slackTo_le (by omega) (by omega), if_pos (by omega), total_take (by omega)]; omega
theorem slackTo_ge {s : List Int} {k : Nat} (hk : k ≤ s.length) : ∀ {i : Nat}, k + i ≤ s.length → slackTo s k (k + i) = (k : Int) * ((k : Int) - 1) - total (s.take k) + minsum ((s.drop k).take i) k
  | 0, _ => by rw [Nat.add_zero, slackTo_le (Nat.le_refl _) hk]; simp [minsum, total]
  | i + 1, h => by
    have e1 : (s.drop k).getD i 0 = s.getD (k + i) 0 := by simp [List.getD_eq_getElem?_getD]
    rw [← Nat.add_assoc, slackTo, slackTo_ge hk (by omega), if_neg (by omega), take_succ 0 (by rw [List.length_drop]; omega), e1]
    unfold minsum
    rw [List.map_append, total_append]
    simp only [List.map_cons, List.map_nil, total_cons]
    simp only [total, List.sum_nil]
    omega
theorem slackAt_eq {s : List Int} {k : Nat} (hk : k ≤ s.length) : slackAt s k = (k : Int) * ((k : Int) - 1) - total (s.take k) + minsum (s.drop k) k := by
  have h := slackTo_ge hk (i := s.length - k) (by omega)
  have h2 : (s.drop k).take (s.length - k) = s.drop k := List.take_of_length_le (by simp)
  rw [show k + (s.length - k) = s.length from by omega, h2] at h
  exact h
def noneNeg (xs : List Int) : Prop := ∀ x ∈ xs, 0 ≤ x
/-- the least one of numbers and 0 -/
def leastTo (xs : List Int) : Nat → Int
  | 0 => 0
  | k + 1 => min (leastTo xs k) (xs.getD k 0)
theorem leastTo_zero {xs : List Int} : ∀ {k : Nat}, k ≤ xs.length → (leastTo xs k ≤ 0 ∧ (leastTo xs k = 0 ↔ ∀ x ∈ xs.take k, 0 ≤ x))
  | 0, _ => by simp [leastTo]
  | k + 1, h => by
    obtain ⟨h1, h2⟩ := leastTo_zero (xs := xs) (k := k) (by omega)
    rw [leastTo, take_succ 0 (by omega)]
    refine ⟨by omega, ?_⟩
    constructor
    · intro h3 x hx
      rcases List.mem_append.1 hx with h4 | h4
      · exact h2.1 (by omega) x h4
      · simp only [List.mem_singleton] at h4; subst h4; omega
    · intro h3
      have h4 := h2.2 (fun x hx => h3 x (List.mem_append_left _ hx))
      have h5 := h3 (xs.getD k 0) (by simp)
      omega
theorem leastTo_all {xs : List Int} : leastTo xs xs.length = 0 ↔ noneNeg xs := by
  have := (leastTo_zero (xs := xs) (k := xs.length) (Nat.le_refl _)).2
  rwa [List.take_length] at this
theorem Small.take {xs : List Int} (h : Small xs) (k : Nat) : Small (xs.take k) := ⟨by rw [List.length_take]; have := h.1; omega, fun x hx => h.2 x (List.mem_of_mem_take hx)⟩
theorem Small.drop {xs : List Int} (h : Small xs) (k : Nat) : Small (xs.drop k) := ⟨by rw [List.length_drop]; have := h.1; omega, fun x hx => h.2 x (List.mem_of_mem_drop hx)⟩
theorem minsum_take {l : List Int} {k : Int} {q : Nat} (h : q < l.length) : minsum (l.take (q + 1)) k = minsum (l.take q) k + min (l.getD q 0) k := by
  unfold minsum
  rw [take_succ 0 h, List.map_append, total_append]
  simp [total]
theorem minsum_bd {l : List Int} (hs : Small l) {k : Int} (hk : 0 ≤ k ∧ k ≤ 1000) (q : Nat) (hq : q ≤ l.length) : -1000 * q ≤ minsum (l.take q) k ∧ minsum (l.take q) k ≤ 1000 * q := by
  have h2 : Small (l.map (fun x => min x k)) := ⟨by rw [List.length_map]; exact hs.1, fun x hx => by
    obtain ⟨y, hy, rfl⟩ := List.mem_map.1 hx
    have := hs.2 y hy; omega⟩
  have := total_bd h2 q (by rw [List.length_map]; exact hq)
  rw [← List.map_take] at this
  exact this
theorem slackTo_bd {s : List Int} (hs : Small s) {k : Nat} (hk : k ≤ 100) : ∀ i, i ≤ s.length → -1 - 1000 * (i : Int) ≤ slackTo s k i ∧ slackTo s k i ≤ 10000 + 1000 * (i : Int)
  | 0, _ => by have := prod_bd hk; simp only [slackTo]; omega
  | i + 1, h => by
    have ih := slackTo_bd hs hk i (by omega)
    have hx := hs.at_ (k := i) (by omega)
    rw [slackTo]; split <;> omega
/-- the slacks of degrees; of other numbers nothing -/
def slacksV (xs : List Int) : List Int := eachL xs (fun i => slackAt (fall xs) (i + 1))
theorem slacksV_yes {xs : List Int} (h : Valid xs) : slacksV xs = (List.range xs.length).map (fun i => slackAt (fall xs) (i + 1)) := if_pos h
theorem slacksV_yes2 {xs : List Int} (h : Valid xs) : slacksV xs = slacksL (fall xs) := by rw [slacksV_yes h, slacksL, fall_length]
theorem slacksV_len (xs : List Int) : (slacksV xs).length ≤ 7 := eachL_len _ _
theorem idxF_bd {p : Int → Bool} {xs : List Int} : -1 ≤ idxF p xs ∧ idxF p xs ≤ xs.length := by
  unfold idxF
  split
  · have := List.findIdx_le_length (p := p) (xs := xs); omega
  · omega
theorem idxF_zero {xs : List Int} : idxF (fun x => decide (x < 0)) xs + 1 = 0 ↔ noneNeg xs := by
  have h := idxF_nonneg (p := fun x : Int => decide (x < 0)) (xs := xs)
  have hb := idxF_bd (p := fun x : Int => decide (x < 0)) (xs := xs)
  unfold noneNeg
  constructor
  · intro h1 x hx
    by_cases hc : x < 0
    · have := h.2 ⟨x, hx, by simpa using hc⟩; omega
    · omega
  · intro h1
    by_cases hc : 0 ≤ idxF (fun x => decide (x < 0)) xs
    · obtain ⟨x, hx, h2⟩ := h.1 hc
      have := h1 x hx
      simp only [decide_eq_true_eq] at h2
      omega
    · omega
theorem total_nonneg {d : List Int} (h : Valid d) : 0 ≤ total d ∧ total d ≤ 1000 * d.length := by
  refine ⟨?_, by have := (total_bd h.small d.length (Nat.le_refl _)).2; rwa [List.take_length] at this⟩
  have key : ∀ (l : List Int), (∀ x ∈ l, 0 ≤ x) → 0 ≤ total l := by
    intro l
    induction l with
    | nil => intro _; simp [total]
    | cons x l ih =>
      intro hl
      have h1 := ih (fun y hy => hl y (List.mem_cons_of_mem _ hy))
      have h2 := hl x (List.mem_cons_self ..)
      rw [total_cons]; omega
  exact key d fun x hx => (h.2 x hx).1
/-! ### corrected conjugates -/
def atLeast (xs : List Int) (k : Int) : Int := ((xs.countP (fun x => decide (k ≤ x)) : Nat) : Int)
theorem atLeast_take {xs : List Int} {i : Nat} (k : Int) (h : i < xs.length) : atLeast (xs.take (i + 1)) k = atLeast (xs.take i) k + (if k ≤ xs.getD i 0 then 1 else 0) := by
  rw [take_succ 0 h]
  unfold atLeast
  rw [List.countP_append]
  by_cases hc : k ≤ xs.getD i 0
  · have e : [xs.getD i 0].countP (fun x => decide (k ≤ x)) = 1 := by rw [List.countP_cons]; simp only [List.countP_nil, decide_eq_true hc]; rfl
    rw [if_pos hc, e]; omega
  · have e : [xs.getD i 0].countP (fun x => decide (k ≤ x)) = 0 := by rw [List.countP_cons]; simp only [List.countP_nil, decide_eq_false hc]; rfl
    rw [if_neg hc, e]; omega
theorem atLeast_bd (xs : List Int) (k : Int) : 0 ≤ atLeast xs k ∧ atLeast xs k ≤ xs.length := by
  unfold atLeast; have := List.countP_le_length (p := fun x => decide (k ≤ x)) (l := xs); omega
def corrAt (s : List Int) (k : Nat) : Int := atLeast (s.take k) k + atLeast (s.drop (k + 1)) ((k : Int) + 1)
def corrL (s : List Int) : List Int := (List.range s.length).map (corrAt s)
theorem countI_lt (k : Int) (xs : List Int) : countI (fun x => decide (k < x)) xs = atLeast xs (k + 1) := by
  unfold countI atLeast
  have e : (fun x : Int => decide (k < x)) = (fun x => decide (k + 1 ≤ x)) := by funext x; exact decide_eq_decide.2 (by omega)
  rw [e]
def corrV (xs : List Int) : List Int := eachL xs (corrAt (fall xs))
theorem corrV_len (xs : List Int) : (corrV xs).length ≤ 7 := eachL_len _ _
/-! ### great degrees, majorizing -/
def durTo (s : List Int) : Nat → Int
  | 0 => 0
  | k + 1 => if (k : Int) ≤ s.getD k 0 then (k : Int) + 1 else durTo s k
theorem durTo_spec (s : List Int) : ∀ k : Nat, 0 ≤ durTo s k ∧ durTo s k ≤ k ∧ ∀ i : Nat, durTo s k ≤ i → i < k → s.getD i 0 < i
  | 0 => by simp [durTo]
  | k + 1 => by
    obtain ⟨h1, h2, h3⟩ := durTo_spec s k
    rw [durTo]; split
    · exact ⟨by omega, by omega, fun i hi hi2 => by omega⟩
    · refine ⟨h1, by omega, fun i hi hi2 => ?_⟩
      rcases Nat.lt_succ_iff_lt_or_eq.1 hi2 with h | rfl
      · exact h3 i hi h
      · omega
def MajP (a b : List Int) : Prop := Valid a ∧ Valid b ∧ a.length = b.length ∧ (∀ k, k < a.length → total ((fall b).take (k + 1)) ≤ total ((fall a).take (k + 1))) ∧ total a = total b
/-! ### graphic degrees, trees -/
instance (xs : List Int) : Decidable (noneNeg xs) := by unfold noneNeg; exact inferInstance
def GraphicP (d : List Int) : Prop := total d % 2 = 0 ∧ noneNeg (slacksL (fall d))
instance (d : List Int) : Decidable (GraphicP d) := by unfold GraphicP; exact inferInstance
def minTo (d : List Int) : Nat → Int
  | 0 => d.getD 0 0
  | k + 1 => min (minTo d k) (d.getD k 0)
theorem minTo_gt {d : List Int} {b : Int} : ∀ {k : Nat}, 0 < k → k ≤ d.length → (b < minTo d k ↔ ∀ x ∈ d.take k, b < x)
  | 0, h, _ => absurd h (Nat.lt_irrefl _)
  | 1, _, h2 => by
    rw [minTo, minTo, take_succ 0 (by omega)]
    simp only [List.take_zero, List.nil_append, List.mem_singleton, forall_eq]
    omega
  | k + 2, _, h2 => by
    have ih := minTo_gt (d := d) (b := b) (k := k + 1) (by omega) (by omega)
    rw [minTo, take_succ 0 (by omega)]
    constructor
    · intro h x hx
      rcases List.mem_append.1 hx with h4 | h4
      · exact ih.1 (by omega) x h4
      · simp only [List.mem_singleton] at h4; subst h4; omega
    · intro h
      have h4 := ih.2 (fun x hx => h x (List.mem_append_left _ hx))
      have h5 := h (d.getD (k + 1) 0) (by simp)
      omega
theorem minTo_all {d : List Int} {b : Int} (h : 0 < d.length) : b < minTo d d.length ↔ ∀ x ∈ d, b < x := by
  have := minTo_gt (d := d) (b := b) h (Nat.le_refl _)
  rwa [List.take_length] at this
theorem minTo_one (d : List Int) : minTo d 1 = d.getD 0 0 := by rw [minTo, minTo]; omega
def TreeP (d : List Int) : Prop := d.length = 1 ∨ (1 < d.length ∧ (∀ x ∈ d, 0 < x) ∧ total d = 2 * ((d.length : Int) - 1))
def ConnP (d : List Int) : Prop := d.length = 1 ∨ (1 < d.length ∧ GraphicP d ∧ (∀ x ∈ d, 0 < x) ∧ 2 * ((d.length : Int) - 1) ≤ total d)
instance (d : List Int) : Decidable (TreeP d) := by unfold TreeP; exact inferInstance
instance (d : List Int) : Decidable (ConnP d) := by unfold ConnP; exact inferInstance
theorem two_each {k : Int} (hk : 1 ≤ k) : ∀ {l : List Int}, (∀ x ∈ l, 0 < x) → 2 * (l.length : Int) ≤ total l + minsum l k
  | [], _ => by simp [total, minsum]
  | x :: l, h => by
    have ih := two_each hk (l := l) (fun y hy => h y (List.mem_cons_of_mem _ hy))
    have hx := h x (List.mem_cons_self ..)
    unfold minsum at ih ⊢
    rw [List.map_cons, total_cons, total_cons, List.length_cons]
    omega
theorem total_split (s : List Int) (k : Nat) : total s = total (s.take k) + total (s.drop k) := by rw [← total_append, List.take_append_drop]
theorem tree_graphic {d : List Int} (hV : Valid d) (hpos : ∀ x ∈ d, 0 < x) (hs : total d = 2 * ((d.length : Int) - 1)) : GraphicP d := by
  refine ⟨by omega, ?_⟩
  intro x hx
  simp only [slacksL, List.mem_map, List.mem_range] at hx
  obtain ⟨i, hi, rfl⟩ := hx
  have hl := fall_length d
  have hn := hV.1
  rw [slackAt_eq (by omega)]
  have h1 := total_split (fall d) (i + 1)
  have h2 := two_each (k := ((i + 1 : Nat) : Int)) (by omega) (l := (fall d).drop (i + 1)) (fun y hy => hpos y (fall_mem.1 (List.mem_of_mem_drop hy)))
  rw [total_fall] at h1
  rw [List.length_drop] at h2
  have hi7 : i = 0 ∨ i = 1 ∨ i = 2 ∨ i = 3 ∨ i = 4 ∨ i = 5 ∨ i = 6 := by omega
  rcases hi7 with rfl | rfl | rfl | rfl | rfl | rfl | rfl <;> omega
theorem one_graphic {d : List Int} (hV : Valid d) (h : d.length = 1) : GraphicP d ∧ total d = 0 := by
  match d, h with
  | [x], _ =>
    have hx := hV.2 x (by simp)
    simp only [List.length_cons, List.length_nil] at hx
    have : x = 0 := by omega
    subst this
    refine ⟨⟨by simp [total], ?_⟩, by simp [total]⟩
    intro y hy
    have : slacksL (fall [0]) = [0] := by rfl
    rw [this] at hy
    simp only [List.mem_singleton] at hy
    omega
theorem conn_iff {d : List Int} (hV : Valid d) : ConnP d ↔ (GraphicP d ∧ 0 < d.length ∧ (d.length = 1 ∨ ∀ x ∈ d, 0 < x) ∧ 2 * (d.length : Int) - 2 ≤ total d) := by
  constructor
  · rintro (h | ⟨h1, h2, h3, h4⟩)
    · have := one_graphic hV h
      exact ⟨this.1, by omega, .inl h, by omega⟩
    · exact ⟨h2, by omega, .inr h3, by omega⟩
  · rintro ⟨h1, h2, h3, h4⟩
    by_cases h : d.length = 1
    · exact .inl h
    · exact .inr ⟨by omega, h1, h3.resolve_left h, by omega⟩
theorem tree_iff {d : List Int} (hV : Valid d) : TreeP d ↔ (ConnP d ∧ total d = 2 * (d.length : Int) - 2) := by
  constructor
  · rintro (h | ⟨h1, h2, h3⟩)
    · have := one_graphic hV h
      exact ⟨.inl h, by omega⟩
    · exact ⟨.inr ⟨h1, tree_graphic hV h2 h3, h2, by omega⟩, by omega⟩
  · rintro ⟨h | ⟨h1, h2, h3, h4⟩, h5⟩
    · exact .inl h
    · exact .inr ⟨h1, h3, by omega⟩
/-! ### how far from split -/
theorem sorted_get {s : List Int} (h : s.Pairwise (· ≥ ·)) {i j : Nat} (hij : i ≤ j) (hj : j < s.length) : s.getD j 0 ≤ s.getD i 0 := by
  rcases Nat.eq_or_lt_of_le hij with rfl | hlt
  · exact Int.le_refl _
  · have := List.pairwise_iff_getElem.1 h i j (by omega) hj hlt
    have e1 : s.getD i 0 = s[i] := by simp [show i < s.length by omega]
    have e2 : s.getD j 0 = s[j] := by simp [hj]
    omega
theorem minsum_all {l : List Int} {k : Int} (h : ∀ x ∈ l, x ≤ k) : minsum l k = total l := by
  unfold minsum
  congr 1
  have : l.map (fun x => min x k) = l.map id := List.map_congr_left fun x hx => by have := h x hx; simp only [id]; omega
  rw [this, List.map_id]
theorem slack_even {d : List Int} (hV : Valid d) (hg : total d % 2 = 0) {m : Nat} (hm : (m : Int) = durTo (fall d) d.length) : slackAt (fall d) m % 2 = 0 := by
  have hl := fall_length d
  have hsp := durTo_spec (fall d) d.length
  rw [slackAt_eq (by omega)]
  have hle : ∀ x ∈ (fall d).drop m, x ≤ (m : Int) := by
    intro x hx
    obtain ⟨j, hj, rfl⟩ := List.getElem_of_mem hx
    rw [List.length_drop] at hj
    rw [List.getElem_drop]
    have h1 := hsp.2.2 m (by omega) (by omega)
    have h2 := sorted_get (fall_sorted d) (i := m) (j := m + j) (by omega) (by omega)
    have e2 : (fall d).getD (m + j) 0 = (fall d)[m + j]'(by omega) := by simp [show m + j < (fall d).length by omega]
    omega
  rw [minsum_all hle]
  have h1 := total_split (fall d) m
  rw [total_fall] at h1
  have hn := hV.1
  have hm7 : m = 0 ∨ m = 1 ∨ m = 2 ∨ m = 3 ∨ m = 4 ∨ m = 5 ∨ m = 6 ∨ m = 7 := by omega
  rcases hm7 with rfl | rfl | rfl | rfl | rfl | rfl | rfl | rfl <;> omega
theorem durTo_pos (s : List Int) : ∀ {k : Nat}, 0 < k → 0 ≤ s.getD 0 0 → 0 < durTo s k
  | 0, h, _ => absurd h (Nat.lt_irrefl _)
  | 1, _, h => by rw [durTo]; split <;> omega
  | k + 2, _, h => by
    have := durTo_pos s (k := k + 1) (by omega) h
    rw [durTo]; split <;> omega
/-- twice how far degrees are from split -/
def splitV (xs : List Int) : Int := if durTo (fall xs) xs.length = 0 then 0 else (slacksV xs).getD (durTo (fall xs) xs.length - 1).toNat 0
theorem splitV_nonneg {xs : List Int} (hV : Valid xs) (hg : GraphicP xs) : 0 ≤ splitV xs := by
  unfold splitV
  split
  · exact Int.le_refl _
  · have hsp := durTo_spec (fall xs) xs.length
    have hl : (slacksV xs).length = xs.length := by rw [slacksV_yes hV]; simp
    have h2 := hg.2
    rw [← slacksV_yes2 hV] at h2
    exact h2 _ (getD_mem 0 (by omega))
theorem splitV_le {xs : List Int} (hV : Valid xs) : splitV xs ≤ 100000 := by
  unfold splitV
  split
  · omega
  · have hsp := durTo_spec (fall xs) xs.length
    have hl : (slacksV xs).length = xs.length := by rw [slacksV_yes hV]; simp
    have hm : (slacksV xs).getD (durTo (fall xs) xs.length - 1).toNat 0 ∈ slacksV xs := getD_mem 0 (by omega)
    rw [slacksV_yes hV] at hm
    obtain ⟨i, hi, e⟩ := List.mem_map.1 hm
    rw [← slacksV_yes hV] at e
    rw [← e]
    have hi' : i < xs.length := by simpa using hi
    have hfl := fall_length xs
    have h7 := hV.1
    have := slackTo_bd hV.fall.small (k := i + 1) (by omega) (fall xs).length (Nat.le_refl _)
    show slackTo (fall xs) (i + 1) (fall xs).length ≤ 100000
    omega
theorem splitV_even {xs : List Int} (hV : Valid xs) (hg : GraphicP xs) : splitV xs % 2 = 0 := by
  unfold splitV
  split
  · rfl
  · have hsp := durTo_spec (fall xs) xs.length
    obtain ⟨m, hm⟩ := Int.eq_ofNat_of_zero_le hsp.1
    have h := slack_even hV hg.1 (m := m) hm.symm
    have e : (durTo (fall xs) xs.length - 1).toNat = m - 1 := by omega
    have e2 : (slacksV xs).getD (m - 1) 0 = slackAt (fall xs) (m - 1 + 1) := by
      rw [slacksV_yes hV]
      simp [List.getD_eq_getElem?_getD, show m - 1 < xs.length by omega]
    rw [e, e2, show m - 1 + 1 = m from by omega]
    exact h
def splitO (xs : List Int) : Int := if Valid xs ∧ GraphicP xs then splitV xs / 2 else -1
/-! ### scores -/
def ValidSc (xs : List Int) : Prop := 1 ≤ xs.length ∧ xs.length ≤ 5 ∧ ∀ x ∈ xs, 0 ≤ x ∧ x ≤ (xs.length : Int) - 1
instance (xs : List Int) : Decidable (ValidSc xs) := by unfold ValidSc; exact inferInstance
theorem prod_nn (k : Nat) : 0 ≤ (k : Int) * ((k : Int) - 1) := by
  rcases k with _ | k
  · simp
  · have e : ((k + 1 : Nat) : Int) - 1 = (k : Int) := by omega
    rw [e, ← Int.natCast_mul]; omega
def overAt (xs : List Int) (i : Nat) : Int := total ((asc xs).take (i + 1)) - ((i + 1 : Nat) : Int) * (((i + 1 : Nat) : Int) - 1) / 2
def scoreL (xs : List Int) : List Int := (List.range xs.length).map (overAt xs)
theorem small_fall {xs : List Int} (h : Small xs) : Small (fall xs) := ⟨by rw [fall_length]; exact h.1, fun x hx => h.2 x (fall_mem.1 hx)⟩
theorem fall_rev (xs : List Int) : (fall xs).reverse = asc xs := by rw [← fall_asc, List.reverse_reverse]
theorem small_rev {xs : List Int} (h : Small xs) : Small (fall xs).reverse := ⟨by rw [List.length_reverse, fall_length]; exact h.1, fun x hx => h.2 x (fall_mem.1 (List.mem_reverse.1 hx))⟩
theorem ValidSc.small {xs : List Int} (h : ValidSc xs) : Small xs := ⟨by have := h.2.1; omega, fun x hx => by have := h.2.1; have := h.2.2 x hx; omega⟩
theorem total_len {xs : List Int} (h : Small xs) : -1000 * xs.length ≤ total xs ∧ total xs ≤ 1000 * xs.length := by
  have := total_bd h xs.length (Nat.le_refl _); rwa [List.take_length] at this
theorem fall_drop {xs : List Int} {k : Nat} : total ((fall xs).drop (xs.length - k)) = total ((asc xs).take k) := by
  have e : (fall xs).drop (xs.length - k) = ((asc xs).take k).reverse := by
    rw [← fall_asc, List.reverse_take, asc_length]
  rw [e]
  exact total_perm (List.reverse_perm _)
/-! ### lists by their places -/
theorem map_range_succ {α : Type} (f : Nat → α) (k : Nat) : (List.range (k + 1)).map f = (List.range k).map f ++ [f k] := by simp [List.range_succ]
end Go.Plain
