/- Which graphs of given degrees there are; factors and their complements. No program in sight. Conditions: those of each theorem. -/
import Derived.Test.YtlgkooeflgmcaabPs
namespace Go.Plain
theorem dcount_cons (e : Ed) (t : List Ed) (v : Nat) : (dcount (e :: t) v : Int) = (if ((v : Nat) : Int) = e.1 ∨ ((v : Nat) : Int) = e.2 then 1 else 0) + (dcount t v : Int) := by
  unfold dcount
  rw [List.countP_cons]
  by_cases h : ((v : Nat) : Int) = e.1 ∨ ((v : Nat) : Int) = e.2
  · simp [h]; omega
  · simp [h]
theorem allR_iff : ∀ {es : List Ed} {ls : List Int} {ch x : List Ed}, (∀ e ∈ es, OkE ls.length e) → (x ∈ allR es ls ch ↔ ∃ t, x = ch ++ t ∧ t.Sublist es ∧ ∀ v, v < ls.length → ls.getD v 0 = (dcount t v : Int))
  | [], ls, ch, x, _ => by
    rw [allR]
    constructor
    · intro h
      split at h
      · rename_i hz
        simp only [List.mem_singleton] at h; subst h
        refine ⟨[], by simp, List.Sublist.refl _, fun v hv => ?_⟩
        have := hz _ (getD_mem (xs := ls) (k := v) 0 hv)
        show _ = ((0 : Nat) : Int); omega
      · cases h
    · rintro ⟨t, ht, hs, hd⟩
      have : t = [] := List.eq_nil_of_sublist_nil hs
      subst this
      have hz : allZ ls := fun y hy => by
        obtain ⟨i, hi, rfl⟩ := List.mem_iff_getElem.1 hy
        have h1 := hd i hi
        have e : ls.getD i 0 = ls[i] := by simp [hi]
        rw [e] at h1
        have : (dcount [] i : Int) = 0 := rfl
        omega
      rw [if_pos hz]; simpa using ht
  | e :: r, ls, ch, x, hes => by
    have he := hes e (by simp)
    have hr : ∀ y ∈ r, OkE ls.length y := fun y hy => hes y (List.mem_cons_of_mem _ hy)
    have ih1 := allR_iff (es := r) (ls := decE ls e) (ch := ch ++ [e]) (x := x) (by rw [decE_length]; exact hr)
    have ih2 := allR_iff (es := r) (ls := ls) (ch := ch) (x := x) hr
    rw [allR, List.mem_append, ih2]
    constructor
    · rintro (h | ⟨t, ht, hs, hd⟩)
      · split at h
        · obtain ⟨t, ht, hs, hd⟩ := ih1.1 h
          refine ⟨e :: t, by rw [ht]; simp, hs.cons_cons e, fun v hv => ?_⟩
          have h1 := hd v (by rw [decE_length]; exact hv)
          rw [decE_get he] at h1
          rw [dcount_cons]; omega
        · cases h
      · exact ⟨t, ht, hs.cons e, hd⟩
    · rintro ⟨t, ht, hs, hd⟩
      rcases t with _ | ⟨a, t⟩
      · exact .inr ⟨[], ht, List.nil_sublist _, hd⟩
      · rcases List.sublist_cons_iff.1 hs with h | ⟨q, hq, hs2⟩
        · exact .inr ⟨a :: t, ht, h, hd⟩
        · injection hq with h1 h2
          subst h1 h2
          left
          obtain ⟨a1, a2, a3⟩ := id he
          have hm : mayE ls a := by
            have g1 := hd a.1.toNat (by omega)
            have g2 := hd a.2.toNat (by omega)
            rw [dcount_cons, if_pos (by omega)] at g1 g2
            exact ⟨by omega, by omega⟩
          rw [if_pos hm]
          refine ih1.2 ⟨t, by rw [ht]; simp, hs2, fun v hv => ?_⟩
          rw [decE_length] at hv
          have h1 := hd v hv
          rw [decE_get he, h1, dcount_cons]; omega
/-- there is a factor -/
theorem facV_iff {m : Nat} {es : List Ed} {ls : List Int} (hg : Gr m es) (hl : ls.length = m) : (facV es ls).2 = true ↔ ∃ t, t.Sublist es ∧ ∀ v, v < m → ls.getD v 0 = (dcount t v : Int) := by
  have hes : ∀ e ∈ es, OkE ls.length e := fun e he => hl ▸ hg.inr e he
  unfold facV
  constructor
  · intro h
    rcases hL : allR es ls [] with _ | ⟨x, L⟩
    · rw [hL] at h; cases h
    · obtain ⟨t, _, hs, hd⟩ := (allR_iff hes).1 (show x ∈ allR es ls [] by rw [hL]; simp)
      exact ⟨t, hs, fun v hv => hd v (by omega)⟩
  · rintro ⟨t, hs, hd⟩
    have hx : t ∈ allR es ls [] := (allR_iff hes).2 ⟨t, by simp, hs, fun v hv => hd v (by omega)⟩
    rcases hL : allR es ls [] with _ | ⟨x, L⟩
    · rw [hL] at hx; cases hx
    · rfl
theorem facV_degs {m : Nat} {es : List Ed} {ls : List Int} (hg : Gr m es) (hl : ls.length = m) (h : (facV es ls).2 = true) : Gr m (facV es ls).1 ∧ degs m (facV es ls).1 = ls := by
  have hes : ∀ e ∈ es, OkE ls.length e := fun e he => hl ▸ hg.inr e he
  unfold facV at h ⊢
  rcases hL : allR es ls [] with _ | ⟨x, L⟩
  · rw [hL] at h; cases h
  · obtain ⟨t, ht, hs, hd⟩ := (allR_iff hes).1 (show x ∈ allR es ls [] by rw [hL]; simp)
    rw [List.nil_append] at ht; subst ht
    have hgx : Gr m x := gr_of_sublist (hs.trans hg.sublist)
    refine ⟨hgx, ?_⟩
    show degs m x = ls
    refine list_ext_getD (by rw [degs_length, hl]) fun j hj => ?_
    rw [degs_length] at hj
    rw [degs_get hgx.inr j, hd j (by omega)]
theorem dcount_split {es t : List Ed} (hn : es.Nodup) (hs : t.Sublist es) (v : Nat) : dcount es v = dcount t v + dcount (es.filter fun e => !decide (e ∈ t)) v := by
  have h1 : t.Perm (es.filter fun e => decide (e ∈ t)) := nodup_perm (hn.sublist hs) (hn.sublist List.filter_sublist) fun x => by
    rw [List.mem_filter, decide_eq_true_iff]
    exact ⟨fun h => ⟨hs.subset h, h⟩, fun h => h.2⟩
  have h2 : dcount t v = dcount (es.filter fun e => decide (e ∈ t)) v := by unfold dcount; exact h1.countP_eq _
  rw [h2]
  unfold dcount
  clear h1 h2 hs hn
  induction es with
  | nil => rfl
  | cons e r ih =>
    rw [List.countP_cons, ih]
    by_cases hm : e ∈ t
    · simp only [List.filter_cons, hm, decide_true, Bool.not_true, Bool.false_eq_true, if_true, if_false, List.countP_cons]; omega
    · simp only [List.filter_cons, hm, decide_false, Bool.not_false, Bool.false_eq_true, if_true, if_false, List.countP_cons]; omega
/-- a factor's complement is one -/
theorem fac_compl {m : Nat} {es : List Ed} {ls ks : List Int} (hg : Gr m es) (hl : ls.length = m) (hk : ks.length = m) (hd : ∀ v, v < m → ks.getD v 0 = (dcount es v : Int) - ls.getD v 0) (h : (facV es ls).2 = true) : (facV es ks).2 = true := by
  obtain ⟨t, hs, ht⟩ := (facV_iff hg hl).1 h
  refine (facV_iff hg hk).2 ⟨es.filter fun e => !decide (e ∈ t), List.filter_sublist, fun v hv => ?_⟩
  rw [hd v hv, ht v hv]
  have := dcount_split hg.nodup hs v
  omega
theorem dcount_le {es t : List Ed} (hs : t.Sublist es) (v : Nat) : dcount t v ≤ dcount es v := by unfold dcount; exact hs.countP_le
/-- degrees and factors as they are asked from outside -/
def degV (N : Int) (es : List Ed) : List Int := if ValidG N es then degs N.toNat es else []
def fctV (N : Int) (es : List Ed) (ys : List Int) : Int × List Ed × Bool := if ValidG N es ∧ Valid ys ∧ (ys.length : Int) = N then (facN N.toNat (facV es ys), facV es ys) else (0, [], false)
end Go.Plain
