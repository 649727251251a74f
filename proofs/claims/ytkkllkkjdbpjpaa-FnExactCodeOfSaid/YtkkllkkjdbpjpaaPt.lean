/- Which graphs of given degrees there are; factors and their complements. No program in sight. Conditions: those of each theorem. -/
import Derived.Test.YtkkllkkjdbpjpaaPs
namespace Go.Plain
theorem dcount_cons (e : Ed) (t : List Ed) (v : Nat) : (dcount (e :: t) v : Int) = (if ((v : Nat) : Int) = e.1 ∨ ((v : Nat) : Int) = e.2 then 1 else 0) + (dcount t v : Int) := by
  unfold dcount
  rw [List.countP_cons]
  by_cases h : ((v : Nat) : Int) = e.1 ∨ ((v : Nat) : Int) = e.2
  · simp [h]; omega
  · simp [h]
theorem allR_iff : ∀ {es : List Ed} {ls : List Int} {ch x : List Ed}, (∀ e ∈ es, OkE ls.length e) → (x ∈ allR es ls ch ↔ ∃ t, x = ch ++ t ∧ t.Sublist es ∧ ∀ v, v < ls.length → ls.getD v 0 = (dcount t v : Int))
  | [], ls, ch, x, _ => by
    rw [allR]
    constructor
    · intro h
      split at h
      · rename_i hz
        simp only [List.mem_singleton] at h; subst h
        refine ⟨[], by simp, List.Sublist.refl _, fun v hv => ?_⟩
        have := hz _ (getD_mem (xs := ls) (k := v) 0 hv)
        show _ = ((0 : Nat) : Int); omega
      · cases h
    · rintro ⟨t, ht, hs, hd⟩
      have : t = [] := List.eq_nil_of_sublist_nil hs
      subst this
      have hz : allZ ls := fun y hy => by
        obtain ⟨i, hi, rfl⟩ := List.mem_iff_getElem.1 hy
        have h1 := hd i hi
        have e : ls.getD i 0 = ls[i] := by simp [hi]
        rw [e] at h1
        have : (dcount [] i : Int) = 0 := rfl
        omega
      rw [if_pos hz]; simpa using ht
  | e :: r, ls, ch, x, hes => by
    have he := hes e (by simp)
    have hr : ∀ y ∈ r, OkE ls.length y := fun y hy => hes y (List.mem_cons_of_mem _ hy)
    have ih1 := allR_iff (es := r) (ls := decE ls e) (ch := ch ++ [e]) (x := x) (by rw [decE_length]; exact hr)
    have ih2 := allR_iff (es := r) (ls := ls) (ch := ch) (x := x) hr
    rw [allR, List.mem_append, ih2]
    constructor
    · rintro (h | ⟨t, ht, hs, hd⟩)
      · split at h
        · obtain ⟨t, ht, hs, hd⟩ := ih1.1 h
          refine ⟨e :: t, by rw [ht]; simp, hs.cons_cons e, fun v hv => ?_⟩
          have h1 := hd v (by rw [decE_length]; exact hv)
          rw [decE_get he] at h1
          rw [dcount_cons]; omega
        · cases h
      · exact ⟨t, ht, hs.cons e, hd⟩
    · rintro ⟨t, ht, hs, hd⟩
      rcases t with _ | ⟨a, t⟩
      · exact .inr ⟨[], ht, List.nil_sublist _, hd⟩
      · rcases List.sublist_cons_iff.1 hs with h | ⟨q, hq, hs2⟩
        · exact .inr ⟨a :: t, ht, h, hd⟩
        · injection hq with h1 h2
          subst h1 h2
          left
          obtain ⟨a1, a2, a3⟩ := id he
          have hm : mayE ls a := by
            have g1 := hd a.1.toNat (by omega)
            have g2 := hd a.2.toNat (by omega)
            rw [dcount_cons, if_pos (by omega)] at g1 g2
            exact ⟨by omega, by omega⟩
          rw [if_pos hm]
          refine ih1.2 ⟨t, by rw [ht]; simp, hs2, fun v hv => ?_⟩
          rw [decE_length] at hv
          have h1 := hd v hv
          rw [decE_get he, h1, dcount_cons]; omega
/-- there is a factor -/
theorem facV_iff {m : Nat} {es : List Ed} {ls : List Int} (hg : Gr m es) (hl : ls.length = m) : (facV es ls).2 = true ↔ ∃ t, t.Sublist es ∧ ∀ v, v < m → ls.getD v 0 = (dcount t v : Int) := by
  have hes : ∀ e ∈ es, OkE ls.length e := fun e he => hl ▸ hg.inr e he
  unfold facV
  constructor
  · intro h
    rcases hL : allR es ls [] with _ | ⟨x, L⟩
    · rw [hL] at h; cases h
    · obtain ⟨t, _, hs, hd⟩ := (allR_iff hes).1 (show x ∈ allR es ls [] by rw [hL]; simp)
      exact ⟨t, hs, fun v hv => hd v (by omega)⟩
  · rintro ⟨t, hs, hd⟩
    have hx : t ∈ allR es ls [] := (allR_iff hes).2 ⟨t, by simp, hs, fun v hv => hd v (by omega)⟩
    rcases hL : allR es ls [] with _ | ⟨x, L⟩
    · rw [hL] at hx; cases hx
    · rfl
theorem facV_degs {m : Nat} {es : List Ed} {ls : List Int} (hg : Gr m es) (hl : ls.length = m) (h : (facV es ls).2 = true) : Gr m (facV es ls).1 ∧ degs m (facV es ls).1 = ls := by
  have hes : ∀ e ∈ es, OkE ls.length e := fun e he => hl ▸ hg.inr e he
  unfold facV at h ⊢
  rcases hL : allR es ls [] with _ | ⟨x, L⟩
  · rw [hL] at h; cases h
  · obtain ⟨t, ht, hs, hd⟩ := (allR_iff hes).1 (show x ∈ allR es ls [] by rw [hL]; simp)
    rw [List.nil_append] at ht; subst ht
    have hgx : Gr m x := gr_of_sublist (hs.trans hg.sublist)
    refine ⟨hgx, ?_⟩
    show degs m x = ls
    refine list_ext_getD (by rw [degs_length, hl]) fun j hj => ?_
    rw [degs_length] at hj
    rw [degs_get hgx.inr j, hd j (by omega)]
theorem dcount_split {es t : List Ed} (hn : es.Nodup) (hs : t.Sublist es) (v : Nat) : dcount es v = dcount t v + dcount (es.filter fun e => !decide (e ∈ t)) v := by
  have h1 : t.Perm (es.filter fun e => decide (e ∈ t)) := nodup_perm (hn.sublist hs) (hn.sublist List.filter_sublist) fun x => by
    rw [List.mem_filter, decide_eq_true_iff]
    exact ⟨fun h => ⟨hs.subset h, h⟩, fun h => h.2⟩
  have h2 : dcount t v = dcount (es.filter fun e => decide (e ∈ t)) v := by unfold dcount; exact h1.countP_eq _
  rw [h2]
  unfold dcount
  clear h1 h2 hs hn
  induction es with
  | nil => rfl
  | cons e r ih =>
    rw [List.countP_cons, ih]
    by_cases hm : e ∈ t
    · simp only [List.filter_cons, hm, decide_true, Bool.not_true, Bool.false_eq_true, if_true, if_false, List.countP_cons]; omega
    · simp only [List.filter_cons, hm, decide_false, Bool.not_false, Bool.false_eq_true, if_true, if_false, List.countP_cons]; omega
/-- a factor's complement is one -/
theorem fac_compl {m : Nat} {es : List Ed} {ls ks : List Int} (hg : Gr m es) (hl : ls.length = m) (hk : ks.length = m) (hd : ∀ v, v < m → ks.getD v 0 = (dcount es v : Int) - ls.getD v 0) (h : (facV es ls).2 = true) : (facV es ks).2 = true := by
  obtain ⟨t, hs, ht⟩ := (facV_iff hg hl).1 h
  refine (facV_iff hg hk).2 ⟨es.filter fun e => !decide (e ∈ t), List.filter_sublist, fun v hv => ?_⟩
  rw [hd v hv, ht v hv]
  have := dcount_split hg.nodup hs v
  omega
theorem dcount_le {es t : List Ed} (hs : t.Sublist es) (v : Nat) : dcount t v ≤ dcount es v := by unfold dcount; exact hs.countP_le
/-- degrees and factors as they are asked from outside -/
def degV (N : Int) (es : List Ed) : List Int := if ValidG N es then degs N.toNat es else []
def fctV (N : Int) (es : List Ed) (ys : List Int) : Int × List Ed × Bool := if ValidG N es ∧ Valid ys ∧ (ys.length : Int) = N then (facN N.toNat (facV es ys), facV es ys) else (0, [], false)
theorem dcount_prs : ∀ m : Nat, m ≤ 7 → ∀ v, v < m → dcount (prs m) v ≤ m - 1 := by decide +kernel
theorem dcount_bd {m : Nat} {es : List Ed} (hg : Gr m es) (hm : m ≤ 7) {v : Nat} (hv : v < m) : dcount es v ≤ m - 1 := Nat.le_trans (dcount_le hg.sublist v) (dcount_prs m hm v hv)
def leftTo (m : Nat) (es : List Ed) (ys : List Int) (k : Nat) : List Int := (List.range k).map fun v => (degV (m : Int) es).getD v 0 - ys.getD v 0
theorem degV_yes {m : Nat} {es : List Ed} (h : ValidG (m : Int) es) : degV (m : Int) es = degs m es := by unfold degV; rw [if_pos h, Int.toNat_natCast]
theorem leftTo_succ (m : Nat) (es : List Ed) (ys : List Int) (k : Nat) : leftTo m es ys (k + 1) = leftTo m es ys k ++ [(degV (m : Int) es).getD k 0 - ys.getD k 0] := map_range_succ _ _
theorem leftTo_len (m : Nat) (es : List Ed) (ys : List Int) (k : Nat) : (leftTo m es ys k).length = k := by simp [leftTo]
theorem leftTo_get {m : Nat} {es : List Ed} (hg : ValidG (m : Int) es) (ys : List Int) {k v : Nat} (hv : v < k) : (leftTo m es ys k).getD v 0 = (dcount es v : Int) - ys.getD v 0 := by
  have h9 := hg.gr
  rw [Int.toNat_natCast] at h9
  rw [← degs_get h9.inr, ← degV_yes hg]; simp [leftTo, List.getD_eq_getElem?_getD, hv]
theorem fct_left {m : Nat} {es : List Ed} {ys : List Int} (hg : ValidG (m : Int) es) (hy : Valid ys) (hl : ys.length = m) : (fctV (m : Int) es ys).2.2 = (fctV (m : Int) es (leftTo m es ys m)).2.2 := by
  have h9 := hg.gr
  rw [Int.toNat_natCast] at h9
  have hm : m ≤ 7 := by have := hg.2.2; omega
  have e1 : fctV (m : Int) es ys = (facN m (facV es ys), facV es ys) := by
    unfold fctV; rw [if_pos ⟨hg, hy, by omega⟩, Int.toNat_natCast]
  have hll := leftTo_len m es ys m
  rw [e1]
  by_cases h : (facV es ys).2 = true
  · have h2 := fac_compl (ks := leftTo m es ys m) h9 hl hll (fun v hv => leftTo_get hg ys hv) h
    obtain ⟨t, hs, ht⟩ := (facV_iff h9 hl).1 h
    have hV : Valid (leftTo m es ys m) := ⟨by omega, fun x hx => by
      obtain ⟨v, hv, rfl⟩ := List.mem_map.1 hx
      rw [List.mem_range] at hv
      rw [degV_yes hg, degs_get h9.inr, ht v hv, hll]
      have := dcount_le hs v
      have := dcount_bd h9 hm hv
      omega⟩
    have e2 : fctV (m : Int) es (leftTo m es ys m) = (facN m (facV es (leftTo m es ys m)), facV es (leftTo m es ys m)) := by
      unfold fctV; rw [if_pos ⟨hg, hV, by omega⟩, Int.toNat_natCast]
    rw [e2]; exact h.trans h2.symm
  · show (facV es ys).2 = _
    rw [Bool.not_eq_true] at h
    rw [h]
    unfold fctV
    split
    · rename_i h3
      show false = (facV es (leftTo m es ys m)).2
      by_cases h4 : (facV es (leftTo m es ys m)).2 = true
      · have := fac_compl (ks := ys) h9 hll hl (fun v hv => by rw [leftTo_get hg ys hv]; omega) h4
        rw [this] at h; cases h
      · rw [Bool.not_eq_true] at h4; exact h4.symm
    · rfl
theorem fct_yes {m : Nat} {es : List Ed} {ys : List Int} (hg : ValidG (m : Int) es) (hy : Valid ys) (hl : ys.length = m) (h : (fctV (m : Int) es ys).2.2 = true) : (fctV (m : Int) es ys).1 = (m : Int) ∧ ValidG (m : Int) (fctV (m : Int) es ys).2.1 ∧ (∀ e ∈ (fctV (m : Int) es ys).2.1, e ∈ es) ∧ degV (m : Int) (fctV (m : Int) es ys).2.1 = ys := by
  have h9 := hg.gr
  rw [Int.toNat_natCast] at h9
  have hm : m ≤ 7 := by have := hg.2.2; omega
  have e1 : fctV (m : Int) es ys = (facN m (facV es ys), facV es ys) := by
    unfold fctV; rw [if_pos ⟨hg, hy, by omega⟩, Int.toNat_natCast]
  rw [e1] at h ⊢
  have h2 := facV_degs h9 hl h
  have hv2 := h2.1.valid hm
  refine ⟨if_pos h, hv2, fun e he => (facV_sub es ys).subset he, ?_⟩
  unfold degV; rw [if_pos hv2, Int.toNat_natCast]; exact h2.2
theorem fct_len {N : Int} {es : List Ed} {ys : List Int} {b : Nat} (h : es.length ≤ b) : (fctV N es ys).2.1.length ≤ b := by
  unfold fctV; split
  · exact Nat.le_trans (facV_sub es ys).length_le h
  · exact Nat.zero_le _
theorem degV_bd {m : Nat} {es : List Ed} (h : ValidG (m : Int) es) (j : Nat) : 0 ≤ (degV (m : Int) es).getD j 0 ∧ (degV (m : Int) es).getD j 0 ≤ 21 := by
  have h9 := h.gr
  rw [Int.toNat_natCast] at h9
  have hm : m ≤ 7 := by have := h.2.2; omega
  have h1 := degsTo_bd h9.inr es.length j
  have := h9.len21 hm
  rw [degV_yes h]; unfold degs; omega
theorem degV_len {m : Nat} {es : List Ed} (h : ValidG (m : Int) es) : (degV (m : Int) es).length = m := by rw [degV_yes h, degs_length]
theorem degV_le {N : Int} {es : List Ed} : (degV N es).length ≤ 7 := by
  unfold degV; split
  · rename_i h; rw [degs_length]; have := h.2.2; omega
  · exact Nat.zero_le _
theorem fctN_le {m : Nat} {es : List Ed} {ys : List Int} : (fctV (m : Int) es ys).1 ≤ (m : Int) := by
  unfold fctV facN; split
  · split <;> simp
  · simp
end Go.Plain
