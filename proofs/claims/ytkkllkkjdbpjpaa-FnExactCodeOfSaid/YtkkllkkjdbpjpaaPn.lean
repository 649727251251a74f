/- Codes of trees: from the tree and back. No program in sight. Conditions: those of each theorem. -/
import Derived.Test.YtkkllkkjdbpjpaaPa
namespace Go.Plain
/-! ### the tree of a code -/
def leafOf (n : Nat) (gone code : List Int) : Int := idxF (fun v => !decide (v ∈ gone) && !decide (v ∈ code)) (ids n)
def goneTo (n : Nat) (code : List Int) : Nat → List Int
  | 0 => []
  | k + 1 => goneTo n code k ++ [leafOf n (goneTo n code k) (code.drop k)]
def leafAt (n : Nat) (code : List Int) (k : Nat) : Int := leafOf n (goneTo n code k) (code.drop k)
def edgTo (n : Nat) (code : List Int) : Nat → List Ed
  | 0 => []
  | k + 1 => edgTo n code k ++ [edg (leafAt n code k) (code.getD k 0)]
theorem goneTo_length (n : Nat) (code : List Int) : ∀ k, (goneTo n code k).length = k
  | 0 => rfl
  | k + 1 => by rw [goneTo, List.length_append, goneTo_length n code k]; rfl
theorem edgTo_length (n : Nat) (code : List Int) : ∀ k, (edgTo n code k).length = k
  | 0 => rfl
  | k + 1 => by rw [edgTo, List.length_append, edgTo_length n code k]; rfl
theorem mem_ids {n : Nat} {v : Int} : v ∈ ids n ↔ 0 ≤ v ∧ v < (n : Int) := by
  simp only [ids, List.mem_map, List.mem_range]
  constructor
  · rintro ⟨i, h, rfl⟩; exact ⟨Int.natCast_nonneg _, Int.ofNat_lt.2 h⟩
  · rintro ⟨h1, h2⟩; exact ⟨v.toNat, by omega, Int.toNat_of_nonneg h1⟩
theorem ids_nodup (n : Nat) : (ids n).Nodup := by
  unfold ids
  rw [List.Nodup, List.pairwise_map]
  exact List.nodup_range.imp fun {a b} h e => h (Int.ofNat.inj e)
/-- a code of a tree of n vertices -/
def CodeP (n : Nat) (code : List Int) : Prop := n = code.length + 2 ∧ ∀ x ∈ code, 0 ≤ x ∧ x < (n : Int)
structure LeafP (n : Nat) (code : List Int) (k : Nat) (v : Int) : Prop where
  rg : 0 ≤ v ∧ v < (n : Int)
  ng : v ∉ goneTo n code k
  nc : v ∉ code.drop k
  fst : ∀ u : Int, 0 ≤ u → u < v → u ∈ goneTo n code k ∨ u ∈ code.drop k
theorem leaf_of {n : Nat} {code : List Int} {k : Nat} (h : ∃ v, 0 ≤ v ∧ v < (n : Int) ∧ v ∉ goneTo n code k ∧ v ∉ code.drop k) : LeafP n code k (leafAt n code k) := by
  obtain ⟨v, h1, h2, h3, h4⟩ := h
  unfold leafAt leafOf
  rcases idxF_cases 0 (fun v => !decide (v ∈ goneTo n code k) && !decide (v ∈ code.drop k)) (ids n) with ⟨_, hn⟩ | ⟨q, e, hq, hp, hl⟩
  · have := hn v (mem_ids.2 ⟨h1, h2⟩)
    simp [h3, h4] at this
  · rw [e]
    rw [ids_length] at hq
    rw [ids_get hq] at hp
    simp only [Bool.and_eq_true, Bool.not_eq_true', decide_eq_false_iff_not] at hp
    refine ⟨by omega, hp.1, hp.2, fun u hu1 hu2 => ?_⟩
    have hm : u ∈ (ids n).take q := by
      rw [List.mem_take_iff_getElem]
      refine ⟨u.toNat, by rw [ids_length]; omega, ?_⟩
      have := ids_get (n := n) (i := u.toNat) (by omega)
      rw [List.getD_eq_getElem?_getD, List.getElem?_eq_getElem (by rw [ids_length]; omega)] at this
      simp only [Option.getD_some] at this
      rw [this]; omega
    have := hl u hm
    simp only [Bool.and_eq_false_iff, Bool.not_eq_false', decide_eq_true_eq] at this
    exact this
theorem left_len {n : Nat} {g : List Int} (hg : g.Nodup) (hr : ∀ x ∈ g, 0 ≤ x ∧ x < (n : Int)) : ((ids n).filter fun v => !decide (v ∈ g)).length + g.length = n := by
  have h1 : (ids n).Perm (((ids n).filter fun v => !decide (v ∈ g)) ++ g) := by
    refine nodup_perm (ids_nodup n) ?_ fun x => ?_
    · rw [List.nodup_append]
      refine ⟨(ids_nodup n).filter _, hg, fun a ha b hb e => ?_⟩
      subst e; simp at ha; exact ha.2 hb
    · rw [List.mem_append, List.mem_filter, mem_ids]
      by_cases hx : x ∈ g
      · simp [hx, hr x hx]
      · simp [hx]
  have := h1.length_eq
  rw [ids_length, List.length_append] at this; omega
theorem leaf_ex {n : Nat} {code : List Int} (hc : CodeP n code) {k : Nat} (hk : k < code.length) (hg : (goneTo n code k).Nodup) (hr : ∀ x ∈ goneTo n code k, 0 ≤ x ∧ x < (n : Int)) : ∃ v, 0 ≤ v ∧ v < (n : Int) ∧ v ∉ goneTo n code k ∧ v ∉ code.drop k := by
  by_cases h : ∃ v, 0 ≤ v ∧ v < (n : Int) ∧ v ∉ goneTo n code k ∧ v ∉ code.drop k
  · exact h
  · exfalso
    have h1 := left_len hg hr
    rw [goneTo_length] at h1
    have h2 := nodup_len (a := (ids n).filter fun v => !decide (v ∈ goneTo n code k)) (b := code.drop k) ((ids_nodup n).filter _) fun x hx => by
      rw [List.mem_filter, mem_ids] at hx
      by_cases h3 : x ∈ code.drop k
      · exact h3
      · exact absurd ⟨x, hx.1.1, hx.1.2, by simpa using hx.2, h3⟩ h
    rw [List.length_drop] at h2
    have := hc.1; omega
structure GoneP (n : Nat) (code : List Int) (k : Nat) : Prop where
  nd : (goneTo n code k).Nodup
  rg : ∀ x ∈ goneTo n code k, 0 ≤ x ∧ x < (n : Int)
  nc : ∀ x ∈ goneTo n code k, x ∉ code.drop k
theorem gone_ok {n : Nat} {code : List Int} (hc : CodeP n code) : ∀ k, k ≤ code.length → GoneP n code k
  | 0, _ => ⟨.nil, fun _ h => (by cases h), fun _ h => (by cases h)⟩
  | k + 1, hk => by
    have ih := gone_ok hc k (by omega)
    have hl := leaf_of (leaf_ex hc (k := k) (by omega) ih.nd ih.rg)
    have hd : ∀ x, x ∉ code.drop k → x ∉ code.drop (k + 1) := fun x h h2 => h (by
      rw [List.drop_eq_getElem_cons (show k < code.length by omega)]; exact List.mem_cons_of_mem _ h2)
    have e : goneTo n code (k + 1) = goneTo n code k ++ [leafAt n code k] := rfl
    refine ⟨?_, ?_, ?_⟩
    · rw [e, List.nodup_append]
      refine ⟨ih.nd, by simp, fun a ha b hb e => ?_⟩
      simp only [List.mem_singleton] at hb
      subst hb; subst e; exact hl.ng ha
    · intro x hx
      rw [e] at hx
      rcases List.mem_append.1 hx with h | h
      · exact ih.rg x h
      · simp only [List.mem_singleton] at h; subst h; exact hl.rg
    · intro x hx
      rw [e] at hx
      rcases List.mem_append.1 hx with h | h
      · exact hd _ (ih.nc x h)
      · simp only [List.mem_singleton] at h; subst h; exact hd _ hl.nc
theorem leaf_ok {n : Nat} {code : List Int} (hc : CodeP n code) {k : Nat} (hk : k < code.length) : LeafP n code k (leafAt n code k) := leaf_of (leaf_ex hc hk (gone_ok hc k (by omega)).nd (gone_ok hc k (by omega)).rg)
theorem leaf_eq {n : Nat} {code : List Int} {k : Nat} {v : Int} (h : LeafP n code k (leafAt n code k)) (h1 : 0 ≤ v) (h2 : v ≤ leafAt n code k) (h3 : v ∉ goneTo n code k) (h4 : v ∉ code.drop k) : v = leafAt n code k := by
  by_cases e : v = leafAt n code k
  · exact e
  · exact absurd (h.fst v h1 (by omega)) (fun h => h.elim h3 h4)
/-! ### what is left over of each vertex -/
def cntV (v : Int) (xs : List Int) : Int := countI (fun x => decide (x = v)) xs
theorem cntV_nonneg (v : Int) (xs : List Int) : 0 ≤ cntV v xs := (countI_bd _ _).1
theorem cntV_le (v : Int) (xs : List Int) : cntV v xs ≤ xs.length := (countI_bd _ _).2
theorem cntV_zero {v : Int} {xs : List Int} : cntV v xs = 0 ↔ v ∉ xs := by
  unfold cntV countI
  rw [Int.natCast_eq_zero, List.countP_eq_zero]
  constructor
  · intro h hv; have := h v hv; simp at this
  · intro h x hx e; simp at e; subst e; exact h hx
theorem cntV_cons (v x : Int) (xs : List Int) : cntV v (x :: xs) = cntV v xs + (if x = v then 1 else 0) := by
  unfold cntV countI
  rw [List.countP_cons]
  by_cases h : x = v <;> simp [h]
theorem cntV_drop {v : Int} {xs : List Int} {k : Nat} (h : k < xs.length) : cntV v (xs.drop k) = cntV v (xs.drop (k + 1)) + (if xs.getD k 0 = v then 1 else 0) := by
  have e : xs.getD k 0 = xs[k] := by simp [h]
  rw [List.drop_eq_getElem_cons h, cntV_cons, e]
theorem cntV_take {v : Int} {xs : List Int} {k : Nat} (h : k < xs.length) : cntV v (xs.take (k + 1)) = cntV v (xs.take k) + (if xs.getD k 0 = v then 1 else 0) := by
  unfold cntV; rw [countI_take h]; simp
/-- for each vertex how often it comes -/
def tallyR (n : Nat) (xs : List Int) : List Int := (ids n).map fun v => cntV v xs
/-- one more than that, and nothing for those that are gone -/
def leftR (n : Nat) (g xs : List Int) : List Int := (ids n).map fun v => if v ∈ g then 0 else 1 + cntV v xs
theorem tallyR_length (n : Nat) (xs : List Int) : (tallyR n xs).length = n := by simp [tallyR, ids_length]
theorem leftR_length (n : Nat) (g xs : List Int) : (leftR n g xs).length = n := by simp [leftR, ids_length]
theorem ids_map_get {n j : Nat} (h : j < n) (f : Int → Int) : ((ids n).map f).getD j 0 = f (j : Int) := by
  simp [ids, List.getD_eq_getElem?_getD, h]
theorem tallyR_get {n j : Nat} (h : j < n) (xs : List Int) : (tallyR n xs).getD j 0 = cntV (j : Int) xs := ids_map_get h _
theorem leftR_get {n j : Nat} (h : j < n) (g xs : List Int) : (leftR n g xs).getD j 0 = if (j : Int) ∈ g then 0 else 1 + cntV (j : Int) xs := ids_map_get h _
theorem tallyR_nil (n : Nat) : tallyR n [] = List.replicate n 0 := by
  refine list_ext_getD (by simp [tallyR_length]) fun j hj => ?_
  rw [tallyR_length] at hj
  rw [tallyR_get hj]; simp [cntV, countI, List.getD_eq_getElem?_getD, hj]
theorem tally_up {n : Nat} {code : List Int} {k : Nat} (hk : k < code.length) (hr : 0 ≤ code.getD k 0 ∧ code.getD k 0 < (n : Int)) : (tallyR n (code.take k)).set (code.getD k 0).toNat ((tallyR n (code.take k)).getD (code.getD k 0).toNat 0 + 1) = tallyR n (code.take (k + 1)) := by
  refine list_ext_getD (by simp [tallyR_length]) fun j hj => ?_
  simp only [List.length_set, tallyR_length] at hj
  rw [getD_setI (by rw [tallyR_length]; omega), tallyR_get hj, tallyR_get hj, tallyR_get (by omega), cntV_take hk]
  split
  · rename_i h; rw [if_pos (by omega), show ((code.getD k 0).toNat : Int) = (j : Int) from by omega]
  · rename_i h; rw [if_neg (by omega), Int.add_zero]
theorem tally_down {n : Nat} {code : List Int} {k : Nat} (hk : k < code.length) (hr : 0 ≤ code.getD k 0 ∧ code.getD k 0 < (n : Int)) : (tallyR n (code.drop k)).set (code.getD k 0).toNat ((tallyR n (code.drop k)).getD (code.getD k 0).toNat 0 - 1) = tallyR n (code.drop (k + 1)) := by
  refine list_ext_getD (by simp [tallyR_length]) fun j hj => ?_
  simp only [List.length_set, tallyR_length] at hj
  rw [getD_setI (by rw [tallyR_length]; omega), tallyR_get hj, tallyR_get hj, tallyR_get (by omega)]
  have e := cntV_drop (v := (j : Int)) hk
  split
  · rename_i h
    rw [if_pos (by omega)] at e
    rw [show ((code.getD k 0).toNat : Int) = (j : Int) from by omega]; omega
  · rename_i h; rw [if_neg (by omega)] at e; omega
theorem left_init {n : Nat} {xs : List Int} : leftR n [] xs = (ids n).map fun v => 1 + cntV v xs := by simp [leftR]
theorem left_down {n : Nat} {code : List Int} (hc : CodeP n code) {k : Nat} (hk : k < code.length) (xs : List Int) (hxs : xs = (leftR n (goneTo n code k) (code.drop k)).set (leafAt n code k).toNat ((leftR n (goneTo n code k) (code.drop k)).getD (leafAt n code k).toNat 0 - 1)) :
    xs.set (code.getD k 0).toNat (xs.getD (code.getD k 0).toNat 0 - 1) = leftR n (goneTo n code (k + 1)) (code.drop (k + 1)) := by
  have hl := leaf_ok hc hk
  have hg := gone_ok hc k (by omega)
  have hr := hc.2 _ (getD_mem (xs := code) (k := k) 0 hk)
  have hcd : code.getD k 0 ∈ code.drop k := by
    have e : code.getD k 0 = code[k] := by simp [hk]
    rw [List.drop_eq_getElem_cons hk, e]; exact List.mem_cons_self
  have h1 : code.getD k 0 ≠ leafAt n code k := fun e => hl.nc (e ▸ hcd)
  have h2 : code.getD k 0 ∉ goneTo n code k := fun h => hg.nc _ h hcd
  have hlr := hl.rg
  have eg : goneTo n code (k + 1) = goneTo n code k ++ [leafAt n code k] := rfl
  subst hxs
  refine list_ext_getD (by simp [leftR_length]) fun j hj => ?_
  simp only [List.length_set, leftR_length] at hj
  rw [getD_setI (by rw [List.length_set, leftR_length]; omega), getD_setI (by rw [leftR_length]; omega), getD_setI (by rw [leftR_length]; omega), leftR_get hj, leftR_get hj, leftR_get (by omega), leftR_get (by omega), eg]
  have e := cntV_drop (v := (j : Int)) hk
  by_cases hj1 : (code.getD k 0).toNat = j
  · have ej : (j : Int) = code.getD k 0 := by omega
    rw [if_pos hj1, if_neg (by omega), show (((code.getD k 0).toNat : Nat) : Int) = (j : Int) from by omega, if_neg (by rw [ej]; exact h2), if_neg (by rw [ej]; exact fun h => (List.mem_append.1 h).elim h2 fun h => h1 (List.mem_singleton.1 h))]
    rw [if_pos (by omega)] at e
    omega
  · rw [if_neg hj1]
    rw [if_neg (by omega)] at e
    by_cases hj2 : (leafAt n code k).toNat = j
    · have ej : (j : Int) = leafAt n code k := by omega
      rw [if_pos hj2, show (((leafAt n code k).toNat : Nat) : Int) = (j : Int) from by omega, if_neg (by rw [ej]; exact hl.ng), if_pos (by rw [ej]; simp)]
      have : cntV (j : Int) (code.drop k) = 0 := cntV_zero.2 (by rw [ej]; exact hl.nc)
      omega
    · rw [if_neg hj2]
      have : (j : Int) ≠ leafAt n code k := by omega
      by_cases hj3 : (j : Int) ∈ goneTo n code k
      · rw [if_pos hj3, if_pos (by simp [hj3])]
      · rw [if_neg hj3, if_neg (by simp [hj3, this])]; omega
theorem idxF_map {α β : Type} (f : α → β) (p : β → Bool) (xs : List α) : idxF p (xs.map f) = idxF (fun x => p (f x)) xs := by
  unfold idxF
  rw [List.any_map, List.findIdx_map]; rfl
theorem idxF_congr {α : Type} {p q : α → Bool} {xs : List α} (h : ∀ x ∈ xs, p x = q x) : idxF p xs = idxF q xs := by
  unfold idxF
  have h1 : xs.any p = xs.any q := by
    rw [Bool.eq_iff_iff, List.any_eq_true, List.any_eq_true]
    constructor
    · rintro ⟨x, hx, e⟩; exact ⟨x, hx, by rw [← h x hx]; exact e⟩
    · rintro ⟨x, hx, e⟩; exact ⟨x, hx, by rw [h x hx]; exact e⟩
  have h2 : xs.findIdx p = xs.findIdx q := by
    clear h1
    induction xs with
    | nil => rfl
    | cons x xs ih =>
      rw [List.findIdx_cons, List.findIdx_cons, h x (by simp), ih fun y hy => h y (List.mem_cons_of_mem _ hy)]
  rw [h1, h2]
theorem left_leaf (n : Nat) (g xs : List Int) : idxF (fun x => decide (x = 1)) (leftR n g xs) = leafOf n g xs := by
  unfold leftR leafOf
  rw [idxF_map]
  refine idxF_congr fun v _ => ?_
  by_cases h : v ∈ g
  · simp [h]
  · have h0 := cntV_nonneg v xs
    have h1 := cntV_zero (v := v) (xs := xs)
    by_cases h2 : v ∈ xs
    · have : ¬ (1 + cntV v xs = 1) := fun e => (h1.1 (by omega)) h2
      simp [h, h2, this]
    · simp [h, h2, h1.2 h2]
/-! ### the last two -/
def lastOf (n : Nat) (g : List Int) : List Int := (ids n).filter fun v => !decide (v ∈ g)
structure LastP (n : Nat) (g : List Int) (a b : Int) : Prop where
  eq : lastOf n g = [a, b]
  rg : 0 ≤ a ∧ a < b ∧ b < (n : Int)
  fa : idxF (fun x => decide (x = 1)) (leftR n g []) = a
  fb : idxF (fun x => decide (x = 1)) ((leftR n g []).drop (a + 1).toNat) = b - a - 1
theorem ids_sorted (n : Nat) : (ids n).Pairwise (· < ·) := by
  unfold ids
  rw [List.pairwise_map]
  exact List.pairwise_lt_range.imp fun {a b} h => Int.ofNat_lt.2 h
theorem last_two {n : Nat} {g : List Int} (h : (lastOf n g).length = 2) : ∃ a b, LastP n g a b := by
  obtain ⟨a, b, e⟩ : ∃ a b, lastOf n g = [a, b] := by
    rcases hh : lastOf n g with _ | ⟨a, _ | ⟨b, _ | ⟨c, r⟩⟩⟩
    · rw [hh] at h; cases h
    · rw [hh] at h; cases h
    · exact ⟨a, b, rfl⟩
    · rw [hh] at h; simp at h
  have hs : (lastOf n g).Pairwise (· < ·) := (ids_sorted n).filter _
  have hm : ∀ v, v ∈ lastOf n g ↔ (0 ≤ v ∧ v < (n : Int)) ∧ v ∉ g := fun v => by simp [lastOf, mem_ids]
  rw [e] at hs hm
  have hab : a < b := by simpa using hs
  have ha := (hm a).1 (by simp)
  have hb := (hm b).1 (by simp)
  have hz : ∀ j : Nat, j < n → (leftR n g []).getD j 0 = if (j : Int) ∈ g then 0 else 1 := fun j hj => by rw [leftR_get hj]; simp [cntV, countI]
  have hno : ∀ v : Int, 0 ≤ v → v < (n : Int) → v ≠ a → v ≠ b → v ∈ g := fun v h1 h2 h3 h4 => by
    by_cases h5 : v ∈ g
    · exact h5
    · have := (hm v).2 ⟨⟨h1, h2⟩, h5⟩; simp [h3, h4] at this
  refine ⟨a, b, e, ⟨ha.1.1, hab, hb.1.2⟩, ?_, ?_⟩
  · rw [idxF_found (k := a.toNat) 0 (by rw [leftR_length]; omega) ?_ ?_]
    · omega
    · intro x hx
      obtain ⟨j, hj, rfl⟩ := List.mem_take_iff_getElem.1 hx
      rw [leftR_length] at hj
      have h1 := hz j (by omega)
      rw [if_pos (hno _ (by omega) (by omega) (by omega) (by omega))] at h1
      have e2 : (leftR n g []).getD j 0 = (leftR n g [])[j]'(by rw [leftR_length]; omega) := by simp [List.getD_eq_getElem?_getD, leftR_length, show j < n by omega]
      rw [e2] at h1
      rw [h1]; decide
    · rw [hz _ (by omega), if_neg (by rw [show ((a.toNat : Nat) : Int) = a by omega]; exact ha.2)]; decide
  · rw [idxF_found (k := (b - a - 1).toNat) 0 (by rw [List.length_drop, leftR_length]; omega) ?_ ?_]
    · omega
    · intro x hx
      obtain ⟨j, hj, rfl⟩ := List.mem_take_iff_getElem.1 hx
      rw [List.length_drop, leftR_length] at hj
      have h1 := hz ((a + 1).toNat + j) (by omega)
      rw [if_pos (hno _ (by omega) (by omega) (by omega) (by omega))] at h1
      have e2 : (leftR n g []).getD ((a + 1).toNat + j) 0 = (leftR n g [])[(a + 1).toNat + j]'(by rw [leftR_length]; omega) := by simp [List.getD_eq_getElem?_getD, leftR_length, show (a + 1).toNat + j < n by omega]
      rw [e2] at h1
      rw [List.getElem_drop, h1]; decide
    · have e3 : ((leftR n g []).drop (a + 1).toNat).getD (b - a - 1).toNat 0 = (leftR n g []).getD b.toNat 0 := by
        rw [List.getD_eq_getElem?_getD, List.getElem?_drop, ← List.getD_eq_getElem?_getD, show (a + 1).toNat + (b - a - 1).toNat = b.toNat by omega]
      rw [e3, hz _ (by omega), if_neg (by rw [show ((b.toNat : Nat) : Int) = b by omega]; exact hb.2)]; decide
theorem last_ok {n : Nat} {code : List Int} (hc : CodeP n code) : ∃ a b, LastP n (goneTo n code code.length) a b := by
  refine last_two ?_
  have hg := gone_ok hc code.length (Nat.le_refl _)
  have h1 := left_len hg.nd hg.rg
  rw [goneTo_length] at h1
  have := hc.1
  unfold lastOf; omega
def preT (n : Nat) (code : List Int) : List Ed := edgTo n code code.length ++ [((lastOf n (goneTo n code code.length)).getD 0 0, (lastOf n (goneTo n code code.length)).getD 1 0)]
/-- the tree of a code -/
def treeT (n : Nat) (code : List Int) : List Ed := srtE (preT n code)
theorem edgTo_bd {n : Nat} {code : List Int} (hc : CodeP n code) : ∀ k, k ≤ code.length → ∀ e ∈ edgTo n code k, 0 ≤ e.1 ∧ e.1 < (n : Int) ∧ 0 ≤ e.2 ∧ e.2 < (n : Int)
  | 0, _, e, he => by cases he
  | k + 1, hk, e, he => by
    rw [edgTo] at he
    rcases List.mem_append.1 he with h | h
    · exact edgTo_bd hc k (by omega) e h
    · simp only [List.mem_singleton] at h; subst h
      have h1 := (leaf_ok hc (k := k) (by omega)).rg
      have h2 := hc.2 _ (getD_mem (xs := code) (k := k) 0 (by omega))
      unfold edg; dsimp only; omega
end Go.Plain
