/- Filling a matrix; tables. No program in sight. Conditions: those of each theorem. -/
import Derived.Test.YtkkllkkjdbpjpaaPu
namespace Go.Plain
/-! ### filling a matrix -/
def lefts (r c : List Int) : Nat → List Int
  | 0 => c
  | i + 1 => decs (lefts r c i) (gre (lefts r c i) (-1) (r.getD i 0).toNat)
def pickL (r c : List Int) (i : Nat) : List Int := gre (lefts r c i) (-1) (r.getD i 0).toNat
def ones (b : Nat) (L : List Int) : List Int := L.foldl (fun row k => row.set k.toNat 1) (List.replicate b 0)
def filled (r c : List Int) (i : Nat) : Mat := (List.range i).map fun j => ones c.length (pickL r c j)
def goodAt (r c : List Int) (i : Nat) : Bool := (pickL r c i).all fun x => decide ((lefts r c i).getD x.toNat 0 ≠ 0)
def goodTo (r c : List Int) (i : Nat) : Bool := (List.range i).all (goodAt r c)
def fillV (r c : List Int) : Mat × Bool := if ValidM r c ∧ goodTo r c r.length = true ∧ ¬ 0 < total (lefts r c r.length) then (filled r c r.length, true) else ([], false)
theorem lefts_len (r c : List Int) : ∀ i, (lefts r c i).length = c.length
  | 0 => rfl
  | i + 1 => by rw [lefts, decs_length, lefts_len r c i]
theorem pickL_len (r c : List Int) (i : Nat) : (pickL r c i).length = (r.getD i 0).toNat := gre_length _ _ _
theorem ones_len (b : Nat) (L : List Int) : (ones b L).length = b := by
  have : ∀ (L row : List Int), (L.foldl (fun row k => row.set k.toNat 1) row).length = row.length := by
    intro L; induction L with
    | nil => intro row; rfl
    | cons x L ih => intro row; rw [List.foldl_cons, ih, List.length_set]
  rw [ones, this, List.length_replicate]
theorem ones_snoc (b : Nat) (L : List Int) (k : Int) : ones b (L ++ [k]) = (ones b L).set k.toNat 1 := by simp [ones]
theorem ones_nil (b : Nat) : ones b [] = List.replicate b 0 := rfl
theorem filled_len (r c : List Int) (i : Nat) : (filled r c i).length = i := by simp [filled]
theorem filled_succ (r c : List Int) (i : Nat) : filled r c (i + 1) = filled r c i ++ [ones c.length (pickL r c i)] := map_range_succ _ _
theorem filled_get {r c : List Int} {i j : Nat} (h : j < i) : (filled r c i).getD j [] = ones c.length (pickL r c j) := by simp [filled, List.getD_eq_getElem?_getD, h]
theorem idx_all (n : Nat) : (idx n (-1)).length = n := by rw [idx_ids, ids_length]
theorem pick_fact {r c : List Int} (hV : ValidM r c) {i : Nat} (hi : i < r.length) : (r.getD i 0).toNat ≤ c.length ∧ pickL r c i = (isort 0 (ltOf (byDeg (lefts r c i))) (idx c.length (-1))).take (r.getD i 0).toNat ∧ (pickL r c i).Nodup ∧ ∀ x ∈ pickL r c i, 0 ≤ x ∧ x < (c.length : Int) := by
  have h1 := hV.2.2.1 _ (getD_mem (xs := r) (k := i) 0 hi)
  have h2 : (r.getD i 0).toNat ≤ c.length := by omega
  have hl := lefts_len r c i
  have h3 : pickL r c i = (isort 0 (ltOf (byDeg (lefts r c i))) (idx c.length (-1))).take (r.getD i 0).toNat := by
    have := gre_sorted (d := lefts r c i) (v := -1) (r.getD i 0).toNat (by rw [idx_all, hl]; exact h2)
    rw [pickL, this, hl]
  obtain ⟨hp, hs⟩ := sorted_idx (lefts r c i) c.length (-1)
  have hnd : (isort 0 (ltOf (byDeg (lefts r c i))) (idx c.length (-1))).Nodup := hs.imp fun {a b} h (e : a = b) => by subst e; unfold Bef at h; omega
  refine ⟨h2, h3, ?_, fun x hx => ?_⟩
  · rw [h3]; exact hnd.sublist (List.take_sublist _ _)
  · rw [h3] at hx
    have := idx_mem.1 (hp.mem_iff.1 (List.mem_of_mem_take hx))
    omega
theorem decs_at {d os : List Int} (hn : os.Nodup) (hb : ∀ x ∈ os, 0 ≤ x ∧ x < (d.length : Int)) {i : Nat} (hi : i < d.length) : (decs d os).getD i 0 = d.getD i 0 - (if (i : Int) ∈ os then 1 else 0) := decs_get os d hn hb i hi
theorem goodTo_succ (r c : List Int) (i : Nat) : goodTo r c (i + 1) = (goodTo r c i && goodAt r c i) := by
  simp [goodTo, List.range_succ]
theorem lefts_bd {r c : List Int} (hV : ValidM r c) : ∀ {i : Nat}, i ≤ r.length → goodTo r c i = true → ∀ x ∈ lefts r c i, 0 ≤ x ∧ x ≤ 5
  | 0, _, _, x, hx => by have := hV.2.2.2 x hx; have := hV.1; omega
  | i + 1, hi, hg, x, hx => by
    rw [goodTo_succ, Bool.and_eq_true] at hg
    have ih := lefts_bd hV (i := i) (by omega) hg.1
    obtain ⟨_, _, hn, hb⟩ := pick_fact hV (i := i) (by omega)
    have hl := lefts_len r c i
    obtain ⟨k, hk, rfl⟩ := List.getElem_of_mem hx
    have hk2 : k < (lefts r c i).length := by rw [lefts_len] at hk; omega
    have e1 : (lefts r c (i + 1))[k] = (lefts r c (i + 1)).getD k 0 := by simp [List.getD_eq_getElem?_getD, hk]
    have e2 : (lefts r c (i + 1)).getD k 0 = (lefts r c i).getD k 0 - (if (k : Int) ∈ pickL r c i then 1 else 0) := decs_at hn (fun x hx => by rw [hl]; exact hb x hx) hk2
    have h3 := ih _ (getD_mem 0 hk2)
    rw [e1, e2]
    split
    · rename_i hm
      have := List.all_eq_true.1 hg.2 _ hm
      simp only [ne_eq, decide_eq_true_eq, Int.toNat_natCast] at this
      omega
    · omega
/-- the reference's test behind a row -/
theorem row_test {r c : List Int} (hV : ValidM r c) {i : Nat} (hi : i < r.length) (hg : goodTo r c i = true) : goodAt r c i = true ↔ ¬ leastTo (lefts r c (i + 1)) (lefts r c (i + 1)).length < 0 := by
  obtain ⟨_, _, hn, hb⟩ := pick_fact hV hi
  have hl := lefts_len r c i
  have hl2 := lefts_len r c (i + 1)
  have ih := lefts_bd hV (i := i) (by omega) hg
  have hz := leastTo_zero (xs := lefts r c (i + 1)) (k := (lefts r c (i + 1)).length) (Nat.le_refl _)
  have hget : ∀ k, k < c.length → (lefts r c (i + 1)).getD k 0 = (lefts r c i).getD k 0 - (if (k : Int) ∈ pickL r c i then 1 else 0) := fun k hk => decs_at hn (fun x hx => by rw [hl]; exact hb x hx) (by omega)
  constructor
  · intro h
    have := (lefts_bd hV (i := i + 1) (by omega) (by rw [goodTo_succ, hg, h]; rfl))
    have := hz.2.2 (fun x hx => (this x (List.mem_of_mem_take hx)).1)
    omega
  · intro h
    have h0 := hz.2.1 (by have := hz.1; omega)
    rw [List.take_length] at h0
    refine List.all_eq_true.2 fun x hx => ?_
    have hxb := hb x hx
    obtain ⟨k, rfl⟩ := Int.eq_ofNat_of_zero_le hxb.1
    have h1 := hget k (by omega)
    rw [if_pos hx] at h1
    have h2 := h0 _ (getD_mem (xs := lefts r c (i + 1)) (k := k) 0 (by omega))
    simp only [ne_eq, decide_eq_true_eq, Int.toNat_natCast]
    omega
theorem lefts_small {r c : List Int} (hV : ValidM r c) {i : Nat} (hi : i ≤ r.length) (hg : goodTo r c i = true) : Small (lefts r c i) := ⟨by rw [lefts_len]; have := hV.2.1; omega, fun x hx => by have := lefts_bd hV hi hg x hx; omega⟩
theorem decs_bd5 {d os : List Int} (hd : ∀ x ∈ d, 0 ≤ x ∧ x ≤ 5) (hn : os.Nodup) (hb : ∀ x ∈ os, 0 ≤ x ∧ x < (d.length : Int)) (q : Nat) : ∀ x ∈ decs d (os.take q), -1 ≤ x ∧ x ≤ 5 := fun x hx => by
  obtain ⟨k, hk, rfl⟩ := List.getElem_of_mem hx
  have hk2 : k < d.length := by rwa [decs_length] at hk
  have e1 : (decs d (os.take q))[k] = (decs d (os.take q)).getD k 0 := by simp [List.getD_eq_getElem?_getD, hk]
  have e2 := decs_at (d := d) (os := os.take q) (hn.sublist (List.take_sublist _ _)) (fun x hx => hb x (List.mem_of_mem_take hx)) hk2
  have := hd _ (getD_mem 0 hk2)
  rw [e1, e2]; split <;> omega
/-- what stands at the next place is not touched yet -/
theorem decs_next {d os : List Int} (hn : os.Nodup) (hb : ∀ x ∈ os, 0 ≤ x ∧ x < (d.length : Int)) {q : Nat} (hq : q < os.length) : (decs d (os.take q)).getD (os.getD q 0).toNat 0 = d.getD (os.getD q 0).toNat 0 := by
  have hx := hb _ (getD_mem (xs := os) 0 hq)
  have hout : os.getD q 0 ∉ os.take q := by
    rw [List.getD_eq_getElem?_getD, List.getElem?_eq_getElem hq, Option.getD_some]
    intro h
    have h2 := hn
    rw [← List.take_append_drop q os, List.drop_eq_getElem_cons hq] at h2
    exact (List.nodup_append.1 h2).2.2 _ h _ (List.mem_cons_self ..) rfl
  have e2 := decs_at (d := d) (os := os.take q) (hn.sublist (List.take_sublist _ _)) (fun x hx => hb x (List.mem_of_mem_take hx)) (i := (os.getD q 0).toNat) (by omega)
  rw [e2, if_neg (by rw [Int.toNat_of_nonneg hx.1]; exact hout)]; omega
theorem decs_take {d os : List Int} {q : Nat} (hq : q < os.length) : decs d (os.take (q + 1)) = (decs d (os.take q)).set (os.getD q 0).toNat ((decs d (os.take q)).getD (os.getD q 0).toNat 0 - 1) := by
  rw [take_succ 0 hq, decs_snoc]
theorem ones_take {b : Nat} {os : List Int} {q : Nat} (hq : q < os.length) : ones b (os.take (q + 1)) = (ones b (os.take q)).set (os.getD q 0).toNat 1 := by
  rw [take_succ 0 hq, ones_snoc]
theorem filled_eq {r c : List Int} {m : Mat} (hl : m.length = r.length) (h : ∀ j, j < r.length → m.getD j [] = ones c.length (pickL r c j)) : m = filled r c r.length := by
  apply List.ext_getElem (by rw [hl, filled_len])
  intro j h1 h2
  have := h j (by omega)
  rw [← filled_get (i := r.length) (by omega)] at this
  simpa [List.getD_eq_getElem?_getD, h1, h2] using this
theorem fillV_len (r c : List Int) : (fillV r c).1.length ≤ 5 := by
  unfold fillV; split
  · rename_i h; rw [filled_len]; exact h.1.1.2
  · exact Nat.zero_le _
/-- margins of what is filled -/
theorem ones_get {b : Nat} {L : List Int} (hb : ∀ x ∈ L, 0 ≤ x ∧ x < (b : Int)) {k : Nat} (hk : k < b) : (ones b L).getD k 0 = if (k : Int) ∈ L then 1 else 0 := by
  have : ∀ (L row : List Int), row.length = b → (∀ x ∈ L, 0 ≤ x ∧ x < (b : Int)) → (L.foldl (fun row k => row.set k.toNat 1) row).getD k 0 = if (k : Int) ∈ L then 1 else row.getD k 0 := by
    intro L; induction L with
    | nil => intro row _ _; simp
    | cons x L ih =>
      intro row hl hb
      have hx := hb x List.mem_cons_self
      rw [List.foldl_cons, ih _ (by rw [List.length_set]; exact hl) (fun y hy => hb y (List.mem_cons_of_mem _ hy)), getD_set (by omega)]
      by_cases h1 : (k : Int) ∈ L
      · simp [h1]
      · by_cases h2 : (k : Int) = x
        · rw [if_neg h1, if_pos (by omega), if_pos (by simp [h2])]
        · rw [if_neg h1, if_neg (by omega), if_neg (by simp [h1, h2])]
  rw [ones, this L _ (by simp) hb]
  split
  · rfl
  · simp [List.getD_eq_getElem?_getD, hk]
theorem ones_01 {b : Nat} {L : List Int} (hb : ∀ x ∈ L, 0 ≤ x ∧ x < (b : Int)) : ∀ x ∈ ones b L, 0 ≤ x ∧ x ≤ 1 := fun x hx => by
  obtain ⟨k, hk, rfl⟩ := List.getElem_of_mem hx
  have e : (ones b L)[k] = (ones b L).getD k 0 := by simp [List.getD_eq_getElem?_getD, hk]
  rw [ones_len] at hk
  rw [e, ones_get hb hk]; split <;> omega
theorem total_member {L : List Int} (hn : L.Nodup) : ∀ {b : Nat}, (∀ x ∈ L, 0 ≤ x ∧ x < (b : Int)) → total ((List.range b).map fun k : Nat => if (k : Int) ∈ L then (1 : Int) else 0) = L.length := by
  induction L with
  | nil => intro b _; simpa using total_zeros b
  | cons x L ih =>
    intro b hb
    rw [List.nodup_cons] at hn
    have hx := hb x List.mem_cons_self
    obtain ⟨k, rfl⟩ := Int.eq_ofNat_of_zero_le hx.1
    have h1 := ih hn.2 fun y hy => hb y (List.mem_cons_of_mem _ hy)
    have h2 := total_map_add (fun j : Nat => if (j : Int) ∈ L then (1 : Int) else 0) (fun j : Nat => if j = k then (1 : Int) else 0) (List.range b)
    have h3 : (List.range b).map (fun j : Nat => if (j : Int) ∈ (k : Int) :: L then (1 : Int) else 0) = (List.range b).map fun j : Nat => (if (j : Int) ∈ L then (1 : Int) else 0) + (if j = k then (1 : Int) else 0) := by
      apply List.map_congr_left; intro j _
      by_cases h5 : j = k
      · subst h5; simp [hn.1]
      · simp [h5, show ¬ (j : Int) = (k : Int) by omega]
    have h4 : ∀ b, k < b → total ((List.range b).map fun j : Nat => if j = k then (1 : Int) else 0) = 1 := by
      intro b; induction b with
      | zero => intro h; omega
      | succ b ih2 =>
        intro h
        rw [map_range_succ, total_append]
        by_cases hb2 : b = k
        · subst hb2
          have : (List.range b).map (fun j : Nat => if j = b then (1 : Int) else 0) = (List.range b).map fun _ => (0 : Int) := by
            apply List.map_congr_left; intro j hj; rw [if_neg (by have := List.mem_range.1 hj; omega)]
          rw [this, total_zeros]; simp [total]
        · rw [ih2 (by omega), if_neg hb2]; simp [total]
    rw [h3, h2, h1, h4 b (by omega), List.length_cons]; omega
theorem total_row {b : Nat} {L : List Int} (hn : L.Nodup) (hb : ∀ x ∈ L, 0 ≤ x ∧ x < (b : Int)) : total (ones b L) = L.length := by
  rw [total_as_range, ones_len, ← total_member hn hb]
  congr 1; apply List.map_congr_left; intro k hk
  exact ones_get hb (List.mem_range.1 hk)
theorem filled_mat {r c : List Int} (hV : ValidM r c) : MatP (filled r c r.length) ∧ colsN (filled r c r.length) = c.length := by
  have h1 := hV.1
  have hc : colsN (filled r c r.length) = c.length := by unfold colsN; rw [filled_get (by omega), ones_len]
  refine ⟨⟨by rw [filled_len]; exact h1, fun q hq => ?_⟩, hc⟩
  obtain ⟨j, hj, rfl⟩ := List.mem_map.1 hq
  have hp := pick_fact hV (List.mem_range.1 hj)
  exact ⟨by rw [hc, ones_len], by rw [ones_len]; exact hV.2.1, ones_01 hp.2.2.2⟩
theorem filled_rsum {r c : List Int} (hV : ValidM r c) : rsum (filled r c r.length) = r := by
  apply List.ext_getElem (by rw [rsum_len, filled_len])
  intro j h1 h2
  have hp := pick_fact hV h2
  have e : (rsum (filled r c r.length))[j] = total (ones c.length (pickL r c j)) := by simp [rsum, filled]
  have h3 := hV.2.2.1 _ (List.getElem_mem h2)
  rw [e, total_row hp.2.2.1 hp.2.2.2, pickL_len]
  simp [List.getD_eq_getElem?_getD, h2]; omega
theorem filled_col {r c : List Int} (hV : ValidM r c) {k : Nat} (hk : k < c.length) : ∀ i, i ≤ r.length → colAt (filled r c i) k + (lefts r c i).getD k 0 = c.getD k 0
  | 0, _ => by simp [filled, colAt, total, lefts]
  | i + 1, hi => by
    have ih := filled_col hV hk i (by omega)
    obtain ⟨_, _, hn, hb⟩ := pick_fact hV (i := i) (by omega)
    have hl := lefts_len r c i
    have e2 : (lefts r c (i + 1)).getD k 0 = (lefts r c i).getD k 0 - (if (k : Int) ∈ pickL r c i then 1 else 0) := decs_at hn (fun x hx => by rw [hl]; exact hb x hx) (by omega)
    rw [filled_succ, colAt_append, e2]
    have e3 : colAt [ones c.length (pickL r c i)] k = if (k : Int) ∈ pickL r c i then 1 else 0 := by
      rw [← ones_get hb hk]; simp [colAt, total]
    rw [e3]; omega
theorem total_nonpos {l : List Int} (h : ∀ x ∈ l, 0 ≤ x) (h2 : ¬ 0 < total l) : ∀ x ∈ l, x = 0 := fun x hx => by
  have := total_nn (f := fun x : Int => x) h
  rw [List.map_id'] at this
  exact this.2 (by omega) x hx
theorem filled_csum {r c : List Int} (hV : ValidM r c) (hg : goodTo r c r.length = true) (ht : ¬ 0 < total (lefts r c r.length)) : csum (filled r c r.length) = c := by
  have hz := total_nonpos (fun x hx => (lefts_bd hV (Nat.le_refl _) hg x hx).1) ht
  have hc := (filled_mat hV).2
  apply List.ext_getElem (by rw [csum_len, hc])
  intro k h1 h2
  have e : (csum (filled r c r.length))[k] = colAt (filled r c r.length) k := by simp [csum]
  have h3 := filled_col hV h2 r.length (Nat.le_refl _)
  have h4 := hz _ (getD_mem (xs := lefts r c r.length) (k := k) 0 (by rw [lefts_len]; exact h2))
  rw [e]
  have h5 : c.getD k 0 = c[k] := by simp [List.getD_eq_getElem?_getD, h2]
  omega
theorem good_at {r c : List Int} {n i : Nat} (h : goodTo r c n = true) (hi : i < n) : goodAt r c i = true := List.all_eq_true.1 h i (List.mem_range.2 hi)
theorem fillV_bad {r c : List Int} {i : Nat} (hi : i < r.length) (h : goodAt r c i ≠ true) : fillV r c = ([], false) := if_neg fun h2 => h (good_at h2.2.1 hi)
/-! ### tables -/
def tableM (a b : Nat) (F : Nat → Nat → Int) : Mat := (List.range a).map fun i => (List.range b).map (F i)
theorem tableM_len (a b : Nat) (F : Nat → Nat → Int) : (tableM a b F).length = a := by simp [tableM]
theorem tableM_get {a b : Nat} {F : Nat → Nat → Int} {i : Nat} (h : i < a) : (tableM a b F).getD i [] = (List.range b).map (F i) := by simp [tableM, List.getD_eq_getElem?_getD, h]
theorem getD_setM {m : Mat} {i j : Nat} {x : List Int} (hi : i < m.length) : (m.set i x).getD j [] = if i = j then x else m.getD j [] := by
  by_cases h : i = j
  · subst h; simp [List.getD_eq_getElem?_getD, hi]
  · simp [List.getD_eq_getElem?_getD, List.getElem?_set_ne h, h]
theorem table_eq {m : Mat} {a b : Nat} {F : Nat → Nat → Int} (hl : m.length = a) (h : ∀ j, j < a → m.getD j [] = (List.range b).map (F j)) : m = tableM a b F := by
  apply List.ext_getElem (by rw [hl, tableM_len])
  intro j h1 h2
  have := (h j (by omega)).trans (tableM_get (a := a) (b := b) (F := F) (i := j) (by omega)).symm
  simpa [List.getD_eq_getElem?_getD, h1, h2] using this
theorem zeros_row (b : Nat) : (List.range b).map (fun _ => (0 : Int)) = List.replicate b 0 := by
  induction b with
  | zero => rfl
  | succ b ih => rw [map_range_succ, ih, List.replicate_succ']
/-! ### marked rows -/
def sizeTo (m : Mat) (i : Nat) : Int := ((((m.take i).map List.length).sum : Nat) : Int)
def mkRow (k : Int) (m : Mat) (j : Nat) : List Int := marks (k + sizeTo m j) (m.getD j []).length
def mkTo (k : Int) (m : Mat) (i : Nat) : Mat := (List.range i).map (mkRow k m) ++ m.drop i
theorem sizeTo_succ {m : Mat} {i : Nat} (h : i < m.length) : sizeTo m (i + 1) = sizeTo m i + ((m.getD i []).length : Int) := by
  unfold sizeTo; rw [take_succ [] h, List.map_append, List.sum_append]; simp
theorem sizeTo_nn (m : Mat) (i : Nat) : 0 ≤ sizeTo m i := by unfold sizeTo; omega
theorem sizeTo_le {m : Mat} {b : Nat} (h : ∀ r ∈ m, r.length ≤ b) : ∀ i, sizeTo m i ≤ (i : Int) * b
  | 0 => by simp [sizeTo]
  | i + 1 => by
    by_cases hi : i < m.length
    · rw [sizeTo_succ hi, Int.natCast_add, Int.add_mul]
      have := sizeTo_le h i
      have := h _ (getD_mem (xs := m) [] hi)
      omega
    · have e : m.take (i + 1) = m.take i := by rw [List.take_of_length_le (by omega), List.take_of_length_le (by omega)]
      have := sizeTo_le h i
      unfold sizeTo at *
      rw [e, Int.natCast_add, Int.add_mul]; omega
theorem mkTo_len {k : Int} {m : Mat} {i : Nat} (h : i ≤ m.length) : (mkTo k m i).length = m.length := by simp [mkTo]; omega
theorem mkTo_get {k : Int} {m : Mat} {i j : Nat} (h : i ≤ m.length) : (mkTo k m i).getD j [] = if j < i then mkRow k m j else m.getD j [] := by
  unfold mkTo
  by_cases hj : j < i
  · simp [List.getD_eq_getElem?_getD, List.getElem?_append, hj]
  · simp only [List.getD_eq_getElem?_getD, List.getElem?_append, List.length_map, List.length_range, if_neg hj, List.getElem?_drop]
    rw [show i + (j - i) = j from by omega]
theorem mkTo_succ {k : Int} {m : Mat} {i : Nat} (h : i < m.length) : (mkTo k m i).set i (mkRow k m i) = mkTo k m (i + 1) := by
  unfold mkTo
  rw [List.range_succ, List.map_append, List.set_append, if_neg (by simp)]
  simp only [List.length_map, List.length_range, Nat.sub_self, List.append_assoc]
  rw [List.drop_eq_getElem_cons h]; rfl
theorem mkTo_zero (k : Int) (m : Mat) : mkTo k m 0 = m := rfl
theorem mkRow_len (k : Int) (m : Mat) (j : Nat) : (mkRow k m j).length = (m.getD j []).length := marks_length _ _
theorem mkTo_sizes {k : Int} {m : Mat} {i : Nat} (h : i ≤ m.length) (q : Nat) : sizeTo (mkTo k m i) q = sizeTo m q := by
  unfold sizeTo
  have e0 : ((mkTo k m i).take q).map List.length = (m.take q).map List.length := ?_
  · rw [e0]
  apply List.ext_getElem
  · simp [mkTo_len h]
  · intro j h1 h2
    have hj : j < m.length := by simp at h2; omega
    have hj2 : j < (mkTo k m i).length := by rw [mkTo_len h]; exact hj
    have e1 : (mkTo k m i)[j] = (mkTo k m i).getD j [] := by simp [List.getD_eq_getElem?_getD, hj2]
    simp only [List.getElem_map, List.getElem_take]
    rw [e1, mkTo_get h]
    split
    · rw [mkRow_len]; simp [List.getD_eq_getElem?_getD, hj]
    · simp [List.getD_eq_getElem?_getD, hj]
/-- marked rows stay as they are when they are marked again -/
theorem mkTo_fix {k : Int} {m : Mat} : mkTo k (mkTo k m m.length) (mkTo k m m.length).length = mkTo k m m.length := by
  have hl : (mkTo k m m.length).length = m.length := mkTo_len (Nat.le_refl _)
  apply List.ext_getElem
  · rw [mkTo_len (Nat.le_refl _)]
  · intro j h1 h2
    have e1 : (mkTo k (mkTo k m m.length) (mkTo k m m.length).length)[j] = (mkTo k (mkTo k m m.length) (mkTo k m m.length).length).getD j [] := by simp [List.getD_eq_getElem?_getD, h1]
    have e2 : (mkTo k m m.length)[j] = (mkTo k m m.length).getD j [] := by simp [List.getD_eq_getElem?_getD, h2]
    rw [e1, e2, mkTo_get (Nat.le_refl _), mkTo_get (Nat.le_refl _), if_pos h2, if_pos (by omega)]
    unfold mkRow
    rw [mkTo_sizes (Nat.le_refl _), mkTo_get (Nat.le_refl _), if_pos (by omega), mkRow_len]
theorem fillV_rows (r c : List Int) : ∀ q ∈ (fillV r c).1, q.length ≤ 5 := by
  unfold fillV; split
  · rename_i h
    intro q hq
    obtain ⟨j, _, rfl⟩ := List.mem_map.1 hq
    rw [ones_len]; exact h.1.2.1.2
  · intro q hq; cases hq
theorem mkTo_rows {k : Int} {m : Mat} {b : Nat} (h : ∀ q ∈ m, q.length ≤ b) : ∀ q ∈ mkTo k m m.length, q.length ≤ b := by
  intro q hq
  unfold mkTo at hq
  rw [List.drop_length, List.append_nil] at hq
  obtain ⟨j, hj, rfl⟩ := List.mem_map.1 hq
  rw [mkRow_len]; exact h _ (getD_mem [] (List.mem_range.1 hj))
/-- all that the marking of a matrix asks -/
theorem mark_facts {m : Mat} (hl : m.length ≤ 200) (h : ∀ q ∈ m, q.length ≤ 200) : (m.length ≤ 1048576 ∧ ∀ r ∈ m, r.length ≤ 1048576) ∧ (m.length ≤ 1000 ∧ ∀ r ∈ m, r.length ≤ 1000) ∧ ((mkTo 1 m m.length).length = m.length) ∧ ((mkTo 1 m m.length).length ≤ 1000 ∧ ∀ r ∈ mkTo 1 m m.length, r.length ≤ 1000) ∧ (mkTo 1 (mkTo 1 m m.length) (mkTo 1 m m.length).length = mkTo 1 m m.length) ∧ 0 ≤ sizeTo m m.length ∧ sizeTo m m.length ≤ 40000 ∧ sizeTo (mkTo 1 m m.length) m.length = sizeTo m m.length := by
  have h3 := mkTo_len (k := 1) (m := m) (Nat.le_refl _)
  have h4 := sizeTo_le h m.length
  have h5 : (m.length : Int) * (200 : Nat) ≤ 40000 := by omega
  exact ⟨⟨by omega, fun r hr => by have := h r hr; omega⟩, ⟨by omega, fun r hr => by have := h r hr; omega⟩, h3, ⟨by omega, fun r hr => by have := mkTo_rows h r hr; omega⟩, mkTo_fix, sizeTo_nn _ _, by omega, mkTo_sizes (Nat.le_refl _) _⟩
/-! ### margins, step by step -/
def accR (m : Mat) (i k : Nat) : List Int := (List.range m.length).map fun a => if a < i then total (m.getD a []) else if a = i then total ((m.getD i []).take k) else 0
def accC (m : Mat) (i k : Nat) : List Int := (List.range (colsN m)).map fun b => colAt (m.take i) b + (if b < k then (m.getD i []).getD b 0 else 0)
theorem map_set {n i : Nat} {f g : Nat → Int} {v : Int} (hi : i < n) (h : ∀ a, a < n → a ≠ i → f a = g a) (hv : v = g i) : ((List.range n).map f).set i v = (List.range n).map g := by
  apply List.ext_getElem (by simp)
  intro j h1 h2
  have hj : j < n := by simpa using h2
  rw [List.getElem_set]
  split
  · rename_i e; subst e; simp [hv]
  · rename_i e; simp [h j hj (fun e2 => e e2.symm)]
theorem accR_len (m : Mat) (i k : Nat) : (accR m i k).length = m.length := by simp [accR]
theorem accC_len (m : Mat) (i k : Nat) : (accC m i k).length = colsN m := by simp [accC]
theorem accR_get {m : Mat} {i k : Nat} (h : i < m.length) : (accR m i k).getD i 0 = total ((m.getD i []).take k) := by simp [accR, List.getD_eq_getElem?_getD, h]
theorem accC_get {m : Mat} {i k : Nat} (h : k < colsN m) : (accC m i k).getD k 0 = colAt (m.take i) k := by simp [accC, List.getD_eq_getElem?_getD, h]
theorem accR_step {m : Mat} {i k : Nat} (h : i < m.length) (hk : k < (m.getD i []).length) : (accR m i k).set i (total ((m.getD i []).take k) + (m.getD i []).getD k 0) = accR m i (k + 1) := by
  unfold accR
  refine map_set h (fun a _ hne => ?_) ?_
  · simp [hne]
  · rw [if_neg (by omega), if_pos rfl, total_take hk]
theorem accC_step {m : Mat} {i k : Nat} (h : k < colsN m) : (accC m i k).set k (colAt (m.take i) k + (m.getD i []).getD k 0) = accC m i (k + 1) := by
  unfold accC
  refine map_set h (fun a _ hne => ?_) ?_
  · by_cases h2 : a < k
    · rw [if_pos h2, if_pos (by omega)]
    · rw [if_neg h2, if_neg (by omega)]
  · rw [if_pos (by omega)]
theorem accR_row {m : Mat} {i k : Nat} (hk : (m.getD i []).length ≤ k) : accR m i k = accR m (i + 1) 0 := by
  unfold accR
  apply List.map_congr_left; intro a _
  by_cases h1 : a < i
  · rw [if_pos h1, if_pos (by omega)]
  · by_cases h2 : a = i
    · subst h2; rw [if_neg h1, if_pos rfl, if_pos (by omega), List.take_of_length_le hk]
    · rw [if_neg h1, if_neg h2, if_neg (by omega)]
      split
      · simp [total]
      · rfl
theorem accC_row {m : Mat} {i k : Nat} (h : i < m.length) (hk : colsN m ≤ k) : accC m i k = accC m (i + 1) 0 := by
  unfold accC
  apply List.map_congr_left; intro b hb
  rw [List.mem_range] at hb
  rw [if_pos (by omega), if_neg (by omega), take_succ [] h, colAt_append]
  simp [colAt, total]
theorem accR_zero (m : Mat) : accR m 0 0 = List.replicate m.length 0 := by
  rw [← zeros_row]; unfold accR
  apply List.map_congr_left; intro a _
  simp [total]
theorem accC_zero (m : Mat) : accC m 0 0 = List.replicate (colsN m) 0 := by
  rw [← zeros_row]; unfold accC
  apply List.map_congr_left; intro a _
  simp [colAt, total]
theorem accR_end {m : Mat} {i : Nat} (h : m.length ≤ i) : accR m i 0 = rsum m := by
  unfold accR
  apply List.ext_getElem (by simp [rsum])
  intro j h1 h2
  have hj : j < m.length := by simpa [rsum] using h2
  simp only [List.getElem_map, List.getElem_range, rsum]
  rw [if_pos (by omega)]; simp [List.getD_eq_getElem?_getD, hj]
theorem accC_end {m : Mat} {i : Nat} (h : m.length ≤ i) : accC m i 0 = csum m := by
  unfold accC csum
  apply List.map_congr_left; intro b _
  rw [List.take_of_length_le h]; simp
instance (m : Mat) : Decidable (MatP m) := by unfold MatP; exact inferInstance
def margV (m : Mat) : List Int × List Int := if MatP m then (rsum m, csum m) else ([], [])
def trV (m : Mat) : Mat := if MatP m then trM m else []
theorem table_tr (m : Mat) : tableM (colsN m) m.length (fun i k => (m.getD k []).getD i 0) = trM m := by
  unfold tableM trM
  apply List.map_congr_left; intro j _
  apply List.ext_getElem (by simp)
  intro i h1 h2
  have hi : i < m.length := by simpa using h2
  simp [List.getD_eq_getElem?_getD, hi]
def PairP (t : Mat) (a b : Nat) : Prop := (a ≠ b → ent t a b + ent t b a = 1) ∧ (a = b → ent t a b = 0)
theorem tour_mat {t : Mat} : TourP t ↔ MatP t ∧ t.length = colsN t ∧ ∀ a, a < t.length → ∀ b, b < t.length → PairP t a b := by
  constructor
  · intro h
    exact ⟨h.mat, h.cols.symm, fun a ha b hb => ⟨(h.2.2 a b ha hb).2.1, (h.2.2 a b ha hb).2.2⟩⟩
  · rintro ⟨h1, h2, h3⟩
    refine ⟨h1.1, fun r hr => by rw [(h1.2 r hr).1, h2], fun a b ha hb => ⟨?_, (h3 a ha b hb).1, (h3 a ha b hb).2⟩⟩
    exact getD_or (P := fun x => 0 ≤ x ∧ x ≤ 1) (h1.2 _ (getD_mem (xs := t) [] ha)).2.2 (by omega) b
theorem tour_spec {t : Mat} : TourP t ↔ (1 ≤ t.length ∧ t.length ≤ 5) ∧ (∀ r ∈ t, r.length = t.length) ∧ ∀ a, a < t.length → ∀ b, b < t.length → (0 ≤ ent t a b ∧ ent t a b ≤ 1) ∧ PairP t a b :=
  ⟨fun h => ⟨h.1, h.2.1, fun a ha b hb => h.2.2 a b ha hb⟩, fun h => ⟨h.1, h.2.1, fun a b ha hb => h.2.2 a ha b hb⟩⟩
instance (t : Mat) (a b : Nat) : Decidable (PairP t a b) := by unfold PairP; exact inferInstance
instance (t : Mat) : Decidable (TourP t) := decidable_of_iff _ tour_spec.symm
def scV (m : Mat) : List Int := if TourP m then rsum m else []
theorem marg_len (m : Mat) : (margV m).1.length ≤ 5 ∧ (margV m).2.length ≤ 5 := by
  unfold margV; split
  · rename_i h; exact ⟨by rw [rsum_len]; exact h.1.2, by rw [csum_len]; exact h.cols.2⟩
  · exact ⟨Nat.zero_le _, Nat.zero_le _⟩
theorem sc_len (m : Mat) : (scV m).length ≤ 5 := by
  unfold scV; split
  · rename_i h; rw [rsum_len]; exact h.1.2
  · exact Nat.zero_le _
def MSm (m : Mat) : Prop := m.length ≤ 6 ∧ ∀ r ∈ m, r.length ≤ 5 ∧ Sm r
theorem MSm.sz {m : Mat} (h : MSm m) : m.length ≤ 1048576 ∧ ∀ r ∈ m, r.length ≤ 1048576 := ⟨by have := h.1; omega, fun r hr => by have := (h.2 r hr).1; omega⟩
theorem MSm.bd {m : Mat} (h : MSm m) : ∀ r ∈ m, ∀ x ∈ r, -9223372036854775808 ≤ x ∧ x ≤ 9223372036854775807 := fun r hr x hx => by have := (h.2 r hr).2 x hx; omega
theorem M01.msm {b : Nat} {m : Mat} (h : M01 b m) (hb : b ≤ 5) (hl : m.length ≤ 6) : MSm m := ⟨hl, fun r hr => ⟨by rw [(h r hr).1]; exact hb, fun x hx => by have := (h r hr).2 x hx; omega⟩⟩
theorem MSm.set {m : Mat} (h : MSm m) {i k : Nat} {v : Int} (hi : i < m.length) (hv : -100 ≤ v ∧ v ≤ 100) : MSm (m.set i ((m.getD i []).set k v)) := ⟨by rw [List.length_set]; exact h.1, fun r hr => by
  rcases List.mem_or_eq_of_mem_set hr with h1 | rfl
  · exact h.2 r h1
  · have h2 := h.2 _ (getD_mem (xs := m) [] hi)
    exact ⟨by rw [List.length_set]; exact h2.1, h2.2.set hv⟩⟩
theorem MSm.put {m : Mat} (h : MSm m) {i : Nat} {r' : List Int} (hr : r'.length ≤ 5 ∧ Sm r') : MSm (m.set i r') := ⟨by rw [List.length_set]; exact h.1, fun r h2 => by
  rcases List.mem_or_eq_of_mem_set h2 with h1 | rfl
  · exact h.2 r h1
  · exact hr⟩
theorem MSm.app {m : Mat} (h : MSm m) (hl : m.length ≤ 5) {r' : List Int} (hr : r'.length ≤ 5 ∧ Sm r') : MSm (m ++ [r']) := ⟨by rw [List.length_append]; simp; omega, fun r h2 => by
  rcases List.mem_append.1 h2 with h1 | h1
  · exact h.2 r h1
  · simp only [List.mem_singleton] at h1; subst h1; exact hr⟩
theorem fillV_marg {r c : List Int} (h : (fillV r c).2 = true) : margV (fillV r c).1 = (r, c) := by
  unfold fillV at h ⊢
  split at h
  · rename_i h2
    rw [if_pos h2]
    unfold margV
    rw [if_pos (filled_mat h2.1).1, filled_rsum h2.1, filled_csum h2.1 h2.2.1 h2.2.2]
  · cases h
theorem margV_yes {m : Mat} (h : MatP m) : margV m = (rsum m, csum m) := if_pos h
theorem margV_tr {m : Mat} (h : MatP m) : margV (trV m) = (csum m, rsum m) := by
  rw [show trV m = trM m from if_pos h, margV_yes (tr_matP h), rsum_tr, csum_tr h]
theorem trV_sz (m : Mat) : (trV m).length ≤ 1048576 ∧ ∀ r ∈ trV m, r.length ≤ 1048576 := by
  unfold trV; split
  · rename_i h
    have h2 := tr_matP h
    exact ⟨by have := h2.1; omega, fun r hr => by have := (h2.2 r hr).2.1; omega⟩
  · exact ⟨Nat.zero_le _, fun r hr => by cases hr⟩
theorem tour_sc {t : Mat} (h : TourP t) : scV t = rsum t ∧ scV (trV t) = rsum (trM t) ∧ (scV t).length = t.length ∧ (scV (trV t)).length = t.length ∧ Small (scV t) ∧ (∀ k, k < t.length → (scV (trV t)).getD k 0 + (scV t).getD k 0 = (t.length : Int) - 1 ∧ 0 ≤ (scV t).getD k 0 ∧ (scV t).getD k 0 ≤ 5) := by
  have e1 : scV t = rsum t := if_pos h
  have e2 : scV (trV t) = rsum (trM t) := by rw [show trV t = trM t from if_pos h.mat]; exact if_pos (tr_tour h)
  have hs := tour_scores h
  have hl : (trM t).length = t.length := by rw [tr_len, h.cols]
  refine ⟨e1, e2, by rw [e1, rsum_len], by rw [e2, rsum_len, hl], by rw [e1]; exact hs.1.small, fun k hk => ⟨by rw [e1, e2]; exact tour_other h hk, ?_⟩⟩
  rw [e1]
  have h3 := hs.1.2.2 _ (getD_mem (xs := rsum t) (k := k) 0 (by rw [rsum_len]; exact hk))
  have := h.1
  rw [rsum_len] at h3
  omega
/-! ### all graphic degrees -/
def lfall : Nat → List Int → Int → Mat
  | 0, h, _ => [h]
  | f + 1, h, t => (List.range (t + 1).toNat).flatMap fun j : Nat => lfall f (h ++ [t - (j : Int)]) (t - (j : Int))
def lfTo (f : Nat) (h : List Int) (t : Int) (j : Nat) : Mat := (List.range j).flatMap fun j : Nat => lfall f (h ++ [t - (j : Int)]) (t - (j : Int))
theorem lfTo_succ (f : Nat) (h : List Int) (t : Int) (j : Nat) : lfTo f h t (j + 1) = lfTo f h t j ++ lfall f (h ++ [t - (j : Int)]) (t - (j : Int)) := by simp [lfTo, List.range_succ]
theorem lfall_succ (f : Nat) (h : List Int) (t : Int) : lfall (f + 1) h t = lfTo f h t (t + 1).toNat := rfl
theorem lfall_len : ∀ (f : Nat) (h : List Int) (t : Int), t ≤ 4 → (lfall f h t).length ≤ 5 ^ f
  | 0, _, _, _ => Nat.le_refl _
  | f + 1, h, t, ht => by
    have : ∀ j, (lfTo f h t j).length ≤ j * 5 ^ f := by
      intro j; induction j with
      | zero => simp [lfTo]
      | succ j ih =>
        have := lfall_len f (h ++ [t - (j : Int)]) (t - (j : Int)) (by omega)
        rw [lfTo_succ, List.length_append, Nat.succ_mul]; omega
    rw [lfall_succ, Nat.pow_succ]
    refine Nat.le_trans (this _) ?_
    rw [Nat.mul_comm]; exact Nat.mul_le_mul_left _ (by omega)
theorem lfTo_len {f : Nat} {h : List Int} {t : Int} (ht : t ≤ 4) (hf : f ≤ 4) : ∀ {j : Nat}, j ≤ 5 → (lfTo f h t j).length ≤ 3125
  | j, hj => by
    have : ∀ j, (lfTo f h t j).length ≤ j * 5 ^ f := by
      intro j; induction j with
      | zero => simp [lfTo]
      | succ j ih =>
        have := lfall_len f (h ++ [t - (j : Int)]) (t - (j : Int)) (by omega)
        rw [lfTo_succ, List.length_append, Nat.succ_mul]; omega
    have h2 : 5 ^ f ≤ 5 ^ 4 := Nat.pow_le_pow_right (by decide) hf
    have h3 := this j
    have h4 : j * 5 ^ f ≤ 5 * 5 ^ 4 := Nat.mul_le_mul hj h2
    omega
theorem lfall_bd {f : Nat} {h : List Int} {t : Int} (ht : t ≤ 4) (hf : f ≤ 5) : (lfall f h t).length ≤ 3125 := Nat.le_trans (lfall_len f h t ht) (Nat.pow_le_pow_right (by decide) hf)
theorem lfall_mem : ∀ {f : Nat} {h : List Int} {t : Int} {m : Nat} {x : List Int}, x ∈ lfall f h t → t ≤ (m : Int) → (∀ y ∈ h, 0 ≤ y ∧ y ≤ (m : Int)) → x.length = h.length + f ∧ ∀ y ∈ x, 0 ≤ y ∧ y ≤ (m : Int)
  | 0, h, t, m, x, hx, _, hh => by
    simp only [lfall, List.mem_singleton] at hx; subst hx; exact ⟨rfl, hh⟩
  | f + 1, h, t, m, x, hx, ht, hh => by
    obtain ⟨j, hj, hx2⟩ := List.mem_flatMap.1 hx
    rw [List.mem_range] at hj
    have ih := lfall_mem hx2 (m := m) (by omega) (fun y hy => by
      rcases List.mem_append.1 hy with h1 | h1
      · exact hh y h1
      · simp only [List.mem_singleton] at h1; omega)
    exact ⟨by rw [ih.1, List.length_append]; simp; omega, ih.2⟩
def grB (x : List Int) : Bool := decide (Valid x ∧ GraphicP x)
def allGr (n : Nat) : Mat := (lfall n [] ((n : Int) - 1)).filter grB
def allGV (n : Int) : Mat := if 0 ≤ n ∧ n ≤ 5 then allGr n.toNat else []
theorem lfall_valid {n : Nat} (hn : n ≤ 5) {x : List Int} (hx : x ∈ lfall n [] ((n : Int) - 1)) : Valid x := by
  cases n with
  | zero => simp only [lfall, List.mem_singleton] at hx; subst hx; exact ⟨by decide, fun y hy => by cases hy⟩
  | succ n =>
    have h := lfall_mem (m := n) hx (by omega) (fun y hy => by cases hy)
    have h1 : x.length = n + 1 := by rw [h.1]; simp
    exact ⟨by omega, fun y hy => by have := h.2 y hy; omega⟩
theorem allG_len (n : Int) : (allGV n).length ≤ 200 ∧ ∀ r ∈ allGV n, r.length ≤ 200 := by
  unfold allGV; split
  · rename_i h
    have : ∀ m : Nat, m ≤ 5 → (allGr m).length ≤ 200 := by decide +kernel
    refine ⟨this _ (by omega), fun r hr => ?_⟩
    have := (lfall_valid (by omega) (List.mem_filter.1 hr).1).1
    omega
  · exact ⟨Nat.zero_le _, fun r hr => by cases hr⟩
theorem lfTo_mono {f : Nat} {h : List Int} {t : Int} {j : Nat} : ∀ d, (lfTo f h t j).length ≤ (lfTo f h t (j + d)).length
  | 0 => Nat.le_refl _
  | d + 1 => by rw [← Nat.add_assoc, lfTo_succ, List.length_append]; have := lfTo_mono (f := f) (h := h) (t := t) (j := j) d; omega
theorem lfTo_part {f : Nat} {h : List Int} {t : Int} {j : Nat} (hj : (j : Int) < t + 1) : (lfTo f h t j).length + (lfall f (h ++ [t - (j : Int)]) (t - (j : Int))).length ≤ (lfall (f + 1) h t).length := by
  have h1 := lfTo_mono (f := f) (h := h) (t := t) (j := j + 1) ((t + 1).toNat - (j + 1))
  rw [show j + 1 + ((t + 1).toNat - (j + 1)) = (t + 1).toNat from by omega, lfTo_succ, List.length_append, ← lfall_succ] at h1
  exact h1
/-- what the law says of the list, by looking at all of it -/
def goodList (n : Nat) : Bool := ((allGr n).all fun x => decide (sortedL x = x ∧ x.length = n ∧ sortedL (complV x) ∈ allGr n)) && ((List.range (allGr n).length).all fun i => decide (i = 0 ∨ (allGr n).getD (i - 1) [] ≠ (allGr n).getD i [])) && decide (0 < (allGr n).length)
theorem good_lists : ∀ n : Nat, n ≤ 5 → goodList n = true := by decide +kernel
theorem good_list {n : Nat} (hn : n ≤ 5) : (∀ x ∈ allGr n, (Valid x ∧ GraphicP x) ∧ sortedL x = x ∧ x.length = n ∧ sortedL (complV x) ∈ allGr n) ∧ (∀ i, 0 < i → i < (allGr n).length → (allGr n).getD (i - 1) [] ≠ (allGr n).getD i []) ∧ 0 < (allGr n).length := by
  have h := good_lists n hn
  unfold goodList at h
  rw [Bool.and_eq_true, Bool.and_eq_true] at h
  obtain ⟨⟨h1, h2⟩, h3⟩ := h
  refine ⟨fun x hx => ⟨of_decide_eq_true (List.mem_filter.1 hx).2, of_decide_eq_true (List.all_eq_true.1 h1 x hx)⟩, fun i hi hl => ?_, of_decide_eq_true h3⟩
  have := of_decide_eq_true (List.all_eq_true.1 h2 i (List.mem_range.2 hl))
  exact this.resolve_left (by omega)
/-! ### whom a player beats, directly or by others -/
def BetP (t : Mat) (a i : Nat) (ys : List Int) : Prop := ys.Nodup ∧ (∀ x ∈ ys, 0 ≤ x ∧ x < (t.length : Int)) ∧ ((a : Nat) : Int) ∈ ys ∧ (∀ p, p < i → ∀ b, b < t.length → ent t (ys.getD p 0).toNat b = 1 → ((b : Nat) : Int) ∈ ys) ∧ ∀ K : List Nat, Closed t K → a ∈ K → ∀ x ∈ ys, x.toNat ∈ K
theorem BetP.len {t : Mat} {a i : Nat} {ys : List Int} (h : BetP t a i ys) : ys.length ≤ t.length := by
  have := nodup_len (b := ids t.length) h.1 fun x hx => by
    have := h.2.1 x hx
    exact List.mem_map.2 ⟨x.toNat, List.mem_range.2 (by omega), by show ((x.toNat : Nat) : Int) = x; omega⟩
  rwa [ids_length] at this
theorem bet_start {t : Mat} {a : Nat} (ha : a < t.length) : BetP t a 0 [((a : Nat) : Int)] := ⟨by simp, fun x hx => by simp only [List.mem_singleton] at hx; omega, by simp, fun p hp => absurd hp (Nat.not_lt_zero _), fun K _ hK x hx => by simp only [List.mem_singleton] at hx; subst hx; simpa using hK⟩
theorem getD_left {xs ys : List Int} {p : Nat} (h : p < xs.length) : (xs ++ ys).getD p 0 = xs.getD p 0 := by simp [List.getD_eq_getElem?_getD, List.getElem?_append_left h]
theorem BetP.add {t : Mat} {a i k : Nat} {ys : List Int} (h : BetP t a i ys) (hi : i < ys.length) (hk : k < t.length) (he : ent t (ys.getD i 0).toNat k = 1) (hn : ((k : Nat) : Int) ∉ ys) : BetP t a i (ys ++ [((k : Nat) : Int)]) := by
  obtain ⟨h1, h2, h3, h4, h5⟩ := h
  refine ⟨?_, fun x hx => ?_, by simp [h3], fun p hp b hb hb2 => ?_, fun K hK ha x hx => ?_⟩
  · rw [List.nodup_append]
    refine ⟨h1, by simp, fun x hx y hy => ?_⟩
    simp only [List.mem_singleton] at hy; subst hy; intro e; exact hn (e ▸ hx)
  · rcases List.mem_append.1 hx with h6 | h6
    · exact h2 x h6
    · simp only [List.mem_singleton] at h6; omega
  · rw [getD_left (by omega)] at hb2
    exact List.mem_append_left _ (h4 p hp b hb hb2)
  · rcases List.mem_append.1 hx with h6 | h6
    · exact h5 K hK ha x h6
    · simp only [List.mem_singleton] at h6; subst h6
      rw [Int.toNat_natCast]
      exact hK _ (h5 K hK ha _ (getD_mem 0 hi)) k hk he
theorem BetP.next {t : Mat} {a i : Nat} {ys : List Int} (h : BetP t a i ys) (hb : ∀ b, b < t.length → ent t (ys.getD i 0).toNat b = 1 → ((b : Nat) : Int) ∈ ys) : BetP t a (i + 1) ys := by
  obtain ⟨h1, h2, h3, h4, h5⟩ := h
  refine ⟨h1, h2, h3, fun p hp => ?_, h5⟩
  rcases Nat.lt_succ_iff_lt_or_eq.1 hp with h | rfl
  · exact h4 p h
  · exact hb
def natsOf (ys : List Int) : List Nat := ys.map Int.toNat
theorem BetP.nodup {t : Mat} {a i : Nat} {ys : List Int} (h : BetP t a i ys) : (natsOf ys).Nodup := by
  unfold natsOf
  rw [List.Nodup, List.pairwise_map]
  exact h.1.imp_of_mem fun {x y} hx hy hne e => hne (by have := h.2.1 x hx; have := h.2.1 y hy; omega)
theorem BetP.closed {t : Mat} {a : Nat} {ys : List Int} (h : BetP t a ys.length ys) : Closed t (natsOf ys) := fun x hx b hb he => by
  obtain ⟨y, hy, rfl⟩ := List.mem_map.1 hx
  obtain ⟨p, hp, rfl⟩ := List.getElem_of_mem hy
  have e : ys[p] = ys.getD p 0 := by simp [List.getD_eq_getElem?_getD, hp]
  rw [e] at he
  exact List.mem_map.2 ⟨_, h.2.2.2.1 p hp b hb he, Int.toNat_natCast _⟩
theorem bet_weak {t : Mat} (h : TourP t) {a : Nat} {ys : List Int} (hb : BetP t a ys.length ys) (hl : ys.length < t.length) : ¬ StrongP (rsum t) := fun hs => by
  have := (strong_closed h).1 hs (natsOf ys) hb.nodup (fun x hx => by
    obtain ⟨y, hy, rfl⟩ := List.mem_map.1 hx
    have := hb.2.1 y hy; omega) hb.closed (fun e => by
    have h3 := hb.2.2.1
    rw [List.map_eq_nil_iff.1 e] at h3; cases h3)
  simp only [natsOf, List.length_map] at this; omega
theorem bet_strong {t : Mat} (h : TourP t) (hb : ∀ a, a < t.length → ∃ ys, BetP t a ys.length ys ∧ t.length ≤ ys.length) : StrongP (rsum t) := (strong_closed h).2 fun I hn hl hc h0 => by
  obtain ⟨a, ha⟩ := List.exists_mem_of_ne_nil I h0
  obtain ⟨ys, h1, h2⟩ := hb a (hl a ha)
  have h3 := nodup_len (a := natsOf ys) (b := I) h1.nodup fun x hx => by
    obtain ⟨y, hy, rfl⟩ := List.mem_map.1 hx
    exact h1.2.2.2.2 I hc ha y hy
  have h4 := nodup_len (a := I) (b := List.range t.length) hn fun x hx => List.mem_range.2 (hl x hx)
  simp only [natsOf, List.length_map, List.length_range] at h3 h4
  omega
theorem mat_ext {m n : Mat} (hl : m.length = n.length) (h : ∀ j, j < n.length → m.getD j [] = n.getD j []) : m = n := by
  apply List.ext_getElem hl
  intro j h1 h2
  have := h j h2
  simpa [List.getD_eq_getElem?_getD, h1, h2] using this
end Go.Plain
