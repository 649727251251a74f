/- Laws of degrees: first failing inequality, great degrees, conjugates, complements; and what is drawn. No program in sight. Conditions: those of each theorem. -/
import Derived.Test.YtkkllkkjdbpjpaaPe
import Derived.Test.YtkkllkkjdbpjpaaPg
namespace Go.Plain
/-! ### what is drawn -/
def Sm (xs : List Int) : Prop := ∀ x ∈ xs, -100 ≤ x ∧ x ≤ 100
theorem Sm.set {xs : List Int} (h : Sm xs) {i : Nat} {v : Int} (hv : -100 ≤ v ∧ v ≤ 100) : Sm (xs.set i v) := fun x hx => by
  rcases List.mem_or_eq_of_mem_set hx with h1 | rfl
  · exact h x h1
  · exact hv
theorem Sm.app {xs ys : List Int} (h : Sm xs) (h2 : Sm ys) : Sm (xs ++ ys) := fun x hx => (List.mem_append.1 hx).elim (h x) (h2 x)
theorem Sm.at_ {xs : List Int} (h : Sm xs) {k : Nat} (hk : k < xs.length) : -100 ≤ xs.getD k 0 ∧ xs.getD k 0 ≤ 100 := h _ (getD_mem 0 hk)
theorem Sm.small {xs : List Int} (h : Sm xs) (hl : xs.length ≤ 100) : Small xs := ⟨hl, fun x hx => by have := h x hx; omega⟩
abbrev hasE (es : List Ed) (a b : Int) : Prop := ∃ x ∈ es, (x.1 = a ∧ x.2 = b) ∨ (x.1 = b ∧ x.2 = a)
def compl (m : Nat) (es : List Ed) (k : Nat) : List Ed := ((prs m).take k).filter fun e => !decide (hasE es e.1 e.2)
theorem compl_succ {m : Nat} {es : List Ed} {k : Nat} (h : k < (prs m).length) : compl m es (k + 1) = compl m es k ++ (if hasE es ((prs m).getD k (0, 0)).1 ((prs m).getD k (0, 0)).2 then [] else [(prs m).getD k (0, 0)]) := by
  unfold compl
  rw [take_succ (0, 0) h, List.filter_append]
  congr 1
  split
  · rename_i hc; rw [List.filter_cons, if_neg (by rw [decide_eq_true hc]; decide)]; rfl
  · rename_i hc; rw [List.filter_cons, if_pos (by rw [decide_eq_false hc]; decide)]; rfl
theorem compl_sub (m : Nat) (es : List Ed) (k : Nat) : (compl m es k).Sublist (prs m) := List.filter_sublist.trans (List.take_sublist _ _)
theorem compl_len (m : Nat) (es : List Ed) (k : Nat) : (compl m es k).length ≤ (prs m).length := (compl_sub m es k).length_le
/-! ### the degrees of a graph -/
def dstep (d : List Int) (e : Ed) : List Int := (d.set e.1.toNat (d.getD e.1.toNat 0 + 1)).set e.2.toNat ((d.set e.1.toNat (d.getD e.1.toNat 0 + 1)).getD e.2.toNat 0 + 1)
def degsTo (m : Nat) (es : List Ed) (q : Nat) : List Int := (es.take q).foldl dstep (List.replicate m 0)
def degs (m : Nat) (es : List Ed) : List Int := degsTo m es es.length
theorem dstep_length (d : List Int) (e : Ed) : (dstep d e).length = d.length := by simp [dstep]
theorem foldl_dstep_length : ∀ (es : List Ed) (d : List Int), (es.foldl dstep d).length = d.length
  | [], _ => rfl
  | e :: r, d => by rw [List.foldl_cons, foldl_dstep_length r, dstep_length]
theorem degsTo_length (m : Nat) (es : List Ed) (q : Nat) : (degsTo m es q).length = m := by unfold degsTo; rw [foldl_dstep_length]; simp
theorem degs_length (m : Nat) (es : List Ed) : (degs m es).length = m := degsTo_length _ _ _
theorem degsTo_succ {m : Nat} {es : List Ed} {q : Nat} (h : q < es.length) : degsTo m es (q + 1) = dstep (degsTo m es q) (es.getD q (0, 0)) := by
  unfold degsTo; rw [take_succ (0, 0) h, List.foldl_append]; rfl
theorem dstep_get {n : Nat} {d : List Int} {e : Ed} (hd : d.length = n) (he : 0 ≤ e.1 ∧ e.1 < e.2 ∧ e.2 < (n : Int)) (j : Nat) : (dstep d e).getD j 0 = d.getD j 0 + (if (j : Int) = e.1 ∨ (j : Int) = e.2 then 1 else 0) := by
  unfold dstep
  have h12 : ¬ e.1.toNat = e.2.toNat := by omega
  rw [getD_setI (by simp; omega)]
  by_cases h2 : e.2.toNat = j
  · subst h2
    rw [if_pos rfl, getD_setI (by omega), if_neg h12, if_pos (.inr (by omega))]
  · rw [if_neg h2, getD_setI (by omega)]
    by_cases h1 : e.1.toNat = j
    · subst h1; rw [if_pos rfl, if_pos (.inl (by omega))]
    · rw [if_neg h1, if_neg (by omega)]; omega
def dcount (es : List Ed) (j : Nat) : Nat := es.countP fun e => decide ((j : Int) = e.1 ∨ (j : Int) = e.2)
theorem foldl_dstep_get {n : Nat} : ∀ {es : List Ed}, (∀ e ∈ es, 0 ≤ e.1 ∧ e.1 < e.2 ∧ e.2 < (n : Int)) → ∀ {d : List Int}, d.length = n → ∀ j : Nat, (es.foldl dstep d).getD j 0 = d.getD j 0 + (dcount es j : Int)
  | [], _, d, _, j => by simp [dcount]
  | e :: r, he, d, hd, j => by
    rw [List.foldl_cons, foldl_dstep_get (fun x hx => he x (List.mem_cons_of_mem _ hx)) (by rw [dstep_length]; exact hd) j, dstep_get hd (he e (by simp)) j]
    unfold dcount; rw [List.countP_cons]
    by_cases hc : (j : Int) = e.1 ∨ (j : Int) = e.2
    · rw [if_pos hc, if_pos (decide_eq_true hc)]; omega
    · rw [if_neg hc, if_neg (by rw [decide_eq_false hc]; decide)]; omega
theorem degsTo_get {n : Nat} {es : List Ed} (he : ∀ e ∈ es, 0 ≤ e.1 ∧ e.1 < e.2 ∧ e.2 < (n : Int)) (q j : Nat) : (degsTo n es q).getD j 0 = (dcount (es.take q) j : Int) := by
  unfold degsTo
  rw [foldl_dstep_get (fun x hx => he x (List.mem_of_mem_take hx)) (by simp) j]
  have : (List.replicate n (0 : Int)).getD j 0 = 0 := by
    by_cases hj : j < n <;> simp [List.getD_eq_getElem?_getD, hj]
  rw [this]; omega
theorem degs_get {n : Nat} {es : List Ed} (he : ∀ e ∈ es, 0 ≤ e.1 ∧ e.1 < e.2 ∧ e.2 < (n : Int)) (j : Nat) : (degs n es).getD j 0 = (dcount es j : Int) := by
  unfold degs; rw [degsTo_get he, List.take_length]
theorem degsTo_bd {n : Nat} {es : List Ed} (he : ∀ e ∈ es, 0 ≤ e.1 ∧ e.1 < e.2 ∧ e.2 < (n : Int)) (q j : Nat) : 0 ≤ (degsTo n es q).getD j 0 ∧ (degsTo n es q).getD j 0 ≤ es.length := by
  rw [degsTo_get he]
  have := List.countP_le_length (p := fun e : Ed => decide ((j : Int) = e.1 ∨ (j : Int) = e.2)) (l := es.take q)
  rw [List.length_take] at this
  unfold dcount; omega
theorem degs_sm {n : Nat} {es : List Ed} (he : ∀ e ∈ es, 0 ≤ e.1 ∧ e.1 < e.2 ∧ e.2 < (n : Int)) (hl : es.length ≤ 100) : Sm (degs n es) := fun x hx => by
  obtain ⟨i, hi, rfl⟩ := List.mem_iff_getElem.1 hx
  have := degsTo_bd he es.length i
  have e : (degs n es).getD i 0 = (degs n es)[i] := by simp [hi]
  unfold degs at *
  omega
/-! ### the first failing one -/
theorem idx_first {L : List Int} : (idxF (fun x => decide (x < 0)) L + 1 = 0 ∧ noneNeg L) ∨ (1 ≤ idxF (fun x => decide (x < 0)) L + 1 ∧ idxF (fun x => decide (x < 0)) L + 1 ≤ L.length ∧ L.getD (idxF (fun x => decide (x < 0)) L).toNat 0 < 0 ∧ noneNeg (L.take (idxF (fun x => decide (x < 0)) L).toNat)) := by
  by_cases h : ∃ x ∈ L, decide (x < 0) = true
  · right
    have h0 := idxF_nonneg.2 h
    have ha : L.any (fun x => decide (x < 0)) = true := List.any_eq_true.2 h
    have e : idxF (fun x => decide (x < 0)) L = ((L.findIdx fun x => decide (x < 0) : Nat) : Int) := by simp [idxF, ha]
    have hlt : L.findIdx (fun x => decide (x < 0)) < L.length := List.findIdx_lt_length_of_exists h
    rw [e]
    refine ⟨by omega, by omega, ?_, fun x hx => ?_⟩
    · have := List.findIdx_getElem (w := hlt)
      rw [Int.toNat_natCast, show L.getD (L.findIdx fun x => decide (x < 0)) 0 = L[L.findIdx fun x => decide (x < 0)] from by simp [hlt]]
      simpa using this
    · rw [Int.toNat_natCast] at hx
      obtain ⟨i, hi, rfl⟩ := List.mem_take_iff_getElem.1 hx
      have := List.not_of_lt_findIdx (p := fun x : Int => decide (x < 0)) (xs := L) (i := i) (by omega)
      simp at this; omega
  · left
    have h2 : ∀ x ∈ L, decide (x < 0) = false := fun x hx => by
      by_cases hc : decide (x < 0) = true
      · exact absurd ⟨x, hx, hc⟩ h
      · simpa using hc
    exact ⟨by rw [idxF_none h2]; rfl, fun x hx => by have := h2 x hx; simp at this; exact this⟩
/-! ### great degrees -/
theorem slack_high {s : List Int} (hs : s.Pairwise (· ≥ ·)) {m k : Nat} (hm : ∀ i : Nat, m ≤ i → i < s.length → s.getD i 0 < i) (hmk : m ≤ k) (hk : k ≤ s.length) : slackAt s k = (k : Int) * ((k : Int) - 1) + total s - 2 * total (s.take k) := by
  rw [slackAt_eq hk]
  have hle : ∀ x ∈ s.drop k, x ≤ (k : Int) := by
    intro x hx
    obtain ⟨j, hj, rfl⟩ := List.getElem_of_mem hx
    rw [List.length_drop] at hj
    rw [List.getElem_drop]
    have h1 := hm k hmk (by omega)
    have h2 := sorted_get hs (i := k) (j := k + j) (by omega) (by omega)
    have e2 : s.getD (k + j) 0 = s[k + j]'(by omega) := by simp [show k + j < s.length by omega]
    omega
  rw [minsum_all hle]
  have := total_split s k
  omega
theorem slack_grows {s : List Int} (hs : s.Pairwise (· ≥ ·)) {m k : Nat} (hm : ∀ i : Nat, m ≤ i → i < s.length → s.getD i 0 < i) (hmk : m ≤ k) (hk : k < s.length) : slackAt s k ≤ slackAt s (k + 1) := by
  rw [slack_high hs hm hmk (by omega), slack_high hs hm (by omega : m ≤ k + 1) (by omega), total_take hk]
  have h1 := hm k hmk hk
  have e : ((k + 1 : Nat) : Int) * (((k + 1 : Nat) : Int) - 1) = (k : Int) * ((k : Int) - 1) + 2 * (k : Int) := by
    rw [show (((k + 1 : Nat) : Int) - 1) = (k : Int) from by omega, show ((k + 1 : Nat) : Int) = (k : Int) + 1 from by omega, Int.add_mul, Int.mul_sub]; omega
  rw [e]; omega
theorem durfee_none {d : List Int} (hV : Valid d) : noneNeg (slacksV d) ↔ noneNeg ((slacksV d).take (durTo (fall d) d.length).toNat) := by
  have hfl := fall_length d
  have hsp := durTo_spec (fall d) d.length
  have hl : (slacksV d).length = d.length := by rw [slacksV_yes hV]; simp
  have hget : ∀ i, i < d.length → (slacksV d).getD i 0 = slackAt (fall d) (i + 1) := fun i hi => by
    rw [slacksV_yes hV]; simp [List.getD_eq_getElem?_getD, hi]
  constructor
  · intro h x hx; exact h x (List.mem_of_mem_take hx)
  · intro h
    obtain ⟨m, hm⟩ := Int.eq_ofNat_of_zero_le hsp.1
    rw [hm] at hsp h
    rw [Int.toNat_natCast] at h
    have hmn : m ≤ d.length := by omega
    have hlow : ∀ i, i < m → 0 ≤ slackAt (fall d) (i + 1) := fun i hi => by
      rw [← hget i (by omega)]
      refine h _ ?_
      rw [show (slacksV d).getD i 0 = (slacksV d)[i]'(by omega) from by simp [show i < (slacksV d).length from by omega]]
      exact List.mem_take_iff_getElem.2 ⟨i, by omega, rfl⟩
    have hbase : m < d.length → 1 ≤ m := fun hlt => by
      have := durTo_pos (fall d) (k := d.length) (by omega) (hV.fall.2 _ (getD_mem 0 (by omega))).1
      omega
    have hall : ∀ i, i < d.length → 0 ≤ slackAt (fall d) (i + 1) := by
      intro i
      induction i with
      | zero =>
        intro hi
        by_cases h0 : 0 < m
        · exact hlow 0 h0
        · have := hbase (by omega); omega
      | succ i ih =>
        intro hi
        by_cases h0 : i + 1 < m
        · exact hlow _ h0
        · have h1 := ih (by omega)
          have h2 := slack_grows (fall_sorted d) (m := m) (k := i + 1) (fun j hj hj2 => hsp.2.2 j (by omega) (by omega)) (by omega) (by omega)
          omega
    intro x hx
    obtain ⟨i, hi, rfl⟩ := List.mem_iff_getElem.1 hx
    rw [hl] at hi
    have := hall i hi
    rw [← hget i hi] at this
    rwa [show (slacksV d).getD i 0 = (slacksV d)[i]'(by omega) from by simp [show i < (slacksV d).length from by omega]] at this
theorem durTo_last (s : List Int) : ∀ k : Nat, durTo s k ≠ 0 → durTo s k - 1 ≤ s.getD (durTo s k - 1).toNat 0
  | 0, h => absurd rfl h
  | k + 1, h => by
    rw [durTo] at h ⊢
    split
    · rw [show ((k : Int) + 1 - 1).toNat = k from by omega]; omega
    · rename_i hc; rw [if_neg hc] at h; exact durTo_last s k h
/-! ### sorted degrees, conjugates -/
theorem fall_id {s : List Int} (h : s.Pairwise (· ≥ ·)) : fall s = s := sorted_unique (fall_perm s) (fall_sorted s) h
theorem sortedL_idem (d : List Int) : sortedL (sortedL d) = sortedL d := by
  unfold sortedL
  split
  · rename_i hV
    rw [if_pos hV.fall, fall_id (fall_sorted d)]
  · split <;> rfl
def conjAt (xs : List Int) (k : Nat) : Int := atLeast xs ((k + 1 : Nat) : Int)
def conjV (xs : List Int) : List Int := eachL xs (conjAt xs)
theorem conjV_len (xs : List Int) : (conjV xs).length ≤ 7 := eachL_len _ _
theorem conjV_yes {xs : List Int} (h : Valid xs) : conjV xs = (List.range xs.length).map (conjAt xs) := if_pos h
theorem countI_conj (k : Nat) (xs : List Int) : countI (fun x => decide ((k : Int) < x)) xs = conjAt xs k := by
  rw [countI_lt]; rfl
theorem atLeast_perm {a b : List Int} (h : a.Perm b) (t : Int) : atLeast a t = atLeast b t := by unfold atLeast; rw [h.countP_eq]
theorem conj_sorted {d : List Int} (hV : Valid d) : conjV (sortedL d) = conjV d := by
  have e : sortedL d = fall d := if_pos hV
  rw [e, conjV_yes hV.fall, conjV_yes hV, fall_length]
  refine List.map_congr_left fun k _ => ?_
  exact atLeast_perm (fall_perm d) _
theorem atLeast_anti (xs : List Int) {s t : Int} (h : s ≤ t) : atLeast xs t ≤ atLeast xs s := by
  unfold atLeast
  have : xs.countP (fun x => decide (t ≤ x)) ≤ xs.countP (fun x => decide (s ≤ x)) := List.countP_mono_left fun x _ hx => by simp at hx ⊢; omega
  omega
theorem conj_falls {xs : List Int} {i j : Nat} (h : i ≤ j) : conjAt xs j ≤ conjAt xs i := atLeast_anti xs (by omega)
theorem conj_get {xs : List Int} (hV : Valid xs) {k : Nat} (hk : k < xs.length) : (conjV xs).getD k 0 = conjAt xs k := by
  rw [conjV_yes hV]; simp [List.getD_eq_getElem?_getD, hk]
theorem sum_steps : ∀ (n : Nat) (x : Int), 0 ≤ x → x ≤ n → total ((List.range n).map fun (k : Nat) => if ((k + 1 : Nat) : Int) ≤ x then (1 : Int) else 0) = x
  | 0, x, h0, h1 => by simp [total]; omega
  | n + 1, x, h0, h1 => by
    rw [map_range_succ, total_append]
    by_cases h : ((n + 1 : Nat) : Int) ≤ x
    · have e : (List.range n).map (fun (k : Nat) => if ((k + 1 : Nat) : Int) ≤ x then (1 : Int) else 0) = (List.range n).map (fun (k : Nat) => if ((k + 1 : Nat) : Int) ≤ (n : Int) then (1 : Int) else 0) := List.map_congr_left fun k hk => by
        have := List.mem_range.1 hk; rw [if_pos (by omega), if_pos (by omega)]
      rw [e, sum_steps n n (by omega) (Int.le_refl _), if_pos h]; simp [total]; omega
    · rw [sum_steps n x h0 (by omega), if_neg h]; simp [total]
theorem total_map_add {α : Type} (f g : α → Int) : ∀ l : List α, total (l.map fun k => f k + g k) = total (l.map f) + total (l.map g)
  | [] => rfl
  | a :: l => by simp only [List.map_cons, total_cons, total_map_add f g l]; omega
theorem total_conj (n : Nat) : ∀ xs : List Int, (∀ x ∈ xs, 0 ≤ x ∧ x ≤ n) → total ((List.range n).map (conjAt xs)) = total xs
  | [], _ => by
    have : ∀ m, total ((List.range m).map (conjAt [])) = 0 := by
      intro m
      induction m with
      | zero => rfl
      | succ m ih => rw [map_range_succ, total_append, ih]; rfl
    rw [this]; rfl
  | x :: xs, h => by
    have e : (List.range n).map (conjAt (x :: xs)) = (List.range n).map (fun (k : Nat) => conjAt xs k + (if ((k + 1 : Nat) : Int) ≤ x then (1 : Int) else 0)) := List.map_congr_left fun k _ => by
      unfold conjAt atLeast
      rw [List.countP_cons]
      by_cases hc : ((k + 1 : Nat) : Int) ≤ x
      · rw [if_pos hc, if_pos (decide_eq_true hc)]; omega
      · rw [if_neg hc, if_neg (by rw [decide_eq_false hc]; decide)]; omega
    rw [e, total_map_add, total_conj n xs (fun y hy => h y (List.mem_cons_of_mem _ hy)), sum_steps n x (h x (by simp)).1 (h x (by simp)).2, total_cons]
    omega
theorem atLeast_sorted {s : List Int} (hs : s.Pairwise (· ≥ ·)) {j : Nat} (hj : j < s.length) (t : Int) : ((j + 1 : Nat) : Int) ≤ atLeast s t ↔ t ≤ s.getD j 0 := by
  have hsplit : atLeast s t = atLeast (s.take j) t + atLeast (s.drop j) t := by
    unfold atLeast
    have h : s.countP (fun x => decide (t ≤ x)) = (s.take j).countP (fun x => decide (t ≤ x)) + (s.drop j).countP (fun x => decide (t ≤ x)) := by
      rw [← List.countP_append, List.take_append_drop]
    omega
  have hb := atLeast_bd (s.take j) t
  rw [List.length_take] at hb
  constructor
  · intro h
    rcases Int.lt_or_le (s.getD j 0) t with hc | hc
    · have h0 : atLeast (s.drop j) t = 0 := by
        unfold atLeast
        rw [List.countP_eq_zero.2 fun x hx => by
          obtain ⟨i, hi, rfl⟩ := List.getElem_of_mem hx
          rw [List.length_drop] at hi
          rw [List.getElem_drop]
          have h2 := sorted_get hs (i := j) (j := j + i) (by omega) (by omega)
          have e2 : s.getD (j + i) 0 = s[j + i]'(by omega) := by simp [show j + i < s.length by omega]
          simp; omega]
        rfl
      omega
    · exact hc
  · intro h
    have hall : atLeast (s.take (j + 1)) t = ((j + 1 : Nat) : Int) := by
      unfold atLeast
      rw [List.countP_eq_length.2 fun x hx => by
        obtain ⟨i, hi, rfl⟩ := List.mem_take_iff_getElem.1 hx
        have h2 := sorted_get hs (i := i) (j := j) (by omega) hj
        have e2 : s.getD i 0 = s[i]'(by omega) := by simp [show i < s.length by omega]
        simp; omega, List.length_take]
      congr 1; omega
    have hsub : atLeast (s.take (j + 1)) t ≤ atLeast s t := by
      unfold atLeast
      have := (List.take_sublist (j + 1) s).countP_le (p := fun x => decide (t ≤ x))
      omega
    omega
theorem countP_range_le (n : Nat) (x : Int) (h0 : 0 ≤ x) (h1 : x ≤ n) : ((((List.range n).countP fun (k : Nat) => decide (((k + 1 : Nat) : Int) ≤ x)) : Nat) : Int) = x := by
  have key : ∀ n : Nat, ((((List.range n).countP fun (k : Nat) => decide (((k + 1 : Nat) : Int) ≤ x)) : Nat) : Int) = min x n := by
    intro n
    induction n with
    | zero => simp; omega
    | succ n ih =>
      rw [List.range_succ, List.countP_append, Int.natCast_add, ih, List.countP_cons]
      by_cases h : ((n + 1 : Nat) : Int) ≤ x
      · rw [if_pos (decide_eq_true h)]; simp; omega
      · rw [if_neg (by rw [decide_eq_false h]; decide)]; simp; omega
  rw [key]; omega
theorem conj_conj {d : List Int} (hV : Valid d) (hc : Valid (conjV d)) : conjV (conjV d) = sortedL d := by
  have e : sortedL d = fall d := if_pos hV
  have hl : (conjV d).length = d.length := by rw [conjV_yes hV]; simp
  rw [e, conjV_yes hc, hl]
  symm
  have h := list_of_getD (xs := fall d) (f := conjAt (conjV d)) fun j hj => by
    have hj' : j < d.length := by rw [fall_length] at hj; exact hj
    have hx := hV.fall.2 _ (getD_mem (xs := fall d) (k := j) 0 hj)
    rw [fall_length] at hx
    rw [← countP_range_le d.length ((fall d).getD j 0) hx.1 (by omega)]
    unfold conjAt atLeast
    rw [conjV_yes hV, List.countP_map]
    congr 1
    refine List.countP_congr fun k _ => ?_
    simp only [Function.comp, decide_eq_true_eq]
    unfold conjAt
    rw [← atLeast_perm (fall_perm d), atLeast_sorted (fall_sorted d) hj]
  rw [fall_length] at h
  exact h
/-! ### graphs of several edges -/
def MultiP (xs : List Int) : Prop := total xs % 2 = 0 ∧ ∀ x ∈ xs, 2 * x ≤ total xs
instance (xs : List Int) : Decidable (MultiP xs) := by unfold MultiP; exact inferInstance
theorem minsum_le {l : List Int} {k : Int} : minsum l k ≤ total l := by
  unfold minsum
  induction l with
  | nil => exact Int.le_refl _
  | cons x l ih => rw [List.map_cons, total_cons, total_cons]; omega
theorem graphic_multi {d : List Int} (hg : GraphicP d) : MultiP d := by
  refine ⟨hg.1, fun x hx => ?_⟩
  have hfl := fall_length d
  have hpos : 0 < d.length := List.length_pos_of_mem hx
  have h0 := hg.2 (slackAt (fall d) 1) (List.mem_map.2 ⟨0, List.mem_range.2 (by omega), rfl⟩)
  rw [slackAt_eq (by omega)] at h0
  have h1 := minsum_le (l := (fall d).drop 1) (k := ((1 : Nat) : Int))
  have h2 := total_split (fall d) 1
  rw [total_fall] at h2
  have h3 : total ((fall d).take 1) = (fall d).getD 0 0 := by rw [total_take (k := 0) (by omega)]; simp [total]
  have hx2 : x ∈ fall d := fall_mem.2 hx
  obtain ⟨i, hi, rfl⟩ := List.getElem_of_mem hx2
  have h4 := sorted_get (fall_sorted d) (i := 0) (j := i) (by omega) hi
  have e2 : (fall d).getD i 0 = (fall d)[i] := by simp [hi]
  omega
/-! ### complements -/
def complAt (xs : List Int) (k : Nat) : Int := (xs.length : Int) - 1 - xs.getD k 0
def complV (xs : List Int) : List Int := eachL xs (complAt xs)
theorem complV_len (xs : List Int) : (complV xs).length ≤ 7 := eachL_len _ _
theorem complV_valid {xs : List Int} (h : Valid xs) : Valid (complV xs) := by
  have e : complV xs = (List.range xs.length).map (complAt xs) := if_pos h
  have hl : (complV xs).length = xs.length := by rw [e]; simp
  refine ⟨by rw [hl]; exact h.1, fun x hx => ?_⟩
  rw [hl]
  rw [e] at hx
  obtain ⟨i, hi, rfl⟩ := List.mem_map.1 hx
  have := h.2 _ (getD_mem (xs := xs) (k := i) 0 (List.mem_range.1 hi))
  unfold complAt; omega
theorem sortedL_valid {xs : List Int} (h : Valid xs) : Valid (sortedL xs) := by rw [show sortedL xs = fall xs from if_pos h]; exact h.fall
end Go.Plain
