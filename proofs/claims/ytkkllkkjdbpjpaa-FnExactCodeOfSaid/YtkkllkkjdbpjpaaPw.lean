/- Packing graphs; unions, complements. No program in sight. Conditions: those of each theorem. -/
import Derived.Test.YtkkllkkjdbpjpaaPv
namespace Go.Plain
theorem mem_allR_prs {xs : List Int} {g : List Ed} : g ∈ allR (prs xs.length) xs [] ↔ Gr xs.length g ∧ degs xs.length g = xs := by
  have hes : ∀ e ∈ prs xs.length, OkE xs.length e := fun e he => mem_prs.1 he
  rw [allR_iff hes]
  constructor
  · rintro ⟨t, ht, hs, hd⟩
    rw [List.nil_append] at ht; subst ht
    have hg := gr_of_sublist hs
    refine ⟨hg, list_ext_getD (by rw [degs_length]) fun j hj => ?_⟩
    rw [degs_length] at hj
    rw [degs_get hg.inr, hd j hj]
  · rintro ⟨hg, hd⟩
    refine ⟨g, by simp, hg.sublist, fun v _ => ?_⟩
    rw [← degs_get hg.inr, hd]
theorem mem_allV {xs : List Int} (hV : Valid xs) (h5 : xs.length ≤ 5) {g : List Ed} : g ∈ allV xs ↔ Gr xs.length g ∧ degs xs.length g = xs := by
  rw [show allV xs = allR (prs xs.length) xs [] from if_pos ⟨hV, h5⟩]; exact mem_allR_prs
theorem relV_some {of : List Ed → List Ed} {xs fs : List Int} (hV : Valid xs) (hF : Valid fs) (hl : xs.length = fs.length) (h5 : xs.length ≤ 5) (hof : ∀ g, Gr xs.length g → Gr xs.length (of g)) {g h : List Ed} (he : relV of xs fs = some (g, h)) : Gr xs.length g ∧ degs xs.length g = xs ∧ h.Sublist (of g) ∧ Gr xs.length h ∧ degs xs.length h = fs := by
  rw [show relV of xs fs = (allV xs).findSome? (relF of fs) from if_pos ⟨hV, hF, hl, h5⟩] at he
  obtain ⟨a, ha, he2⟩ := List.exists_of_findSome?_eq_some he
  have ha2 := (mem_allV hV h5).1 ha
  unfold relF at he2
  split at he2
  · rename_i hf
    injection he2 with he2
    injection he2 with e1 e2
    subst e1 e2
    have h2 := facV_degs (hof a ha2.1) hl.symm hf
    exact ⟨ha2.1, ha2.2, facV_sub _ _, h2.1, h2.2⟩
  · cases he2
theorem relV_isSome {of : List Ed → List Ed} {xs fs : List Int} (hV : Valid xs) (hF : Valid fs) (hl : xs.length = fs.length) (h5 : xs.length ≤ 5) (hof : ∀ g, Gr xs.length g → Gr xs.length (of g)) : (relV of xs fs).isSome = true ↔ ∃ g h : List Ed, Gr xs.length g ∧ degs xs.length g = xs ∧ h.Sublist (of g) ∧ degs xs.length h = fs := by
  constructor
  · intro h
    obtain ⟨⟨g, k⟩, hp⟩ := Option.isSome_iff_exists.1 h
    have := relV_some hV hF hl h5 hof hp
    exact ⟨g, k, this.1, this.2.1, this.2.2.1, this.2.2.2.2⟩
  · rintro ⟨g, k, h1, h2, h3, h4⟩
    rw [show relV of xs fs = (allV xs).findSome? (relF of fs) from if_pos ⟨hV, hF, hl, h5⟩]
    rw [List.findSome?_isSome_iff]
    refine ⟨g, (mem_allV hV h5).2 ⟨h1, h2⟩, ?_⟩
    have hgo := hof g h1
    have hk : Gr xs.length k := gr_of_sublist (h3.trans hgo.sublist)
    have hf : (facV (of g) fs).2 = true := (facV_iff hgo hl.symm).2 ⟨k, h3, fun v _ => by rw [← degs_get hk.inr, h4]⟩
    unfold relF; rw [if_pos hf]; rfl
abbrev coG (m : Nat) (es : List Ed) : List Ed := compl m es (prs m).length
theorem coG_gr (m : Nat) (es : List Ed) : Gr m (coG m es) := gr_of_sublist (compl_sub _ _ _)
theorem mem_coG {m : Nat} {es : List Ed} (hg : Gr m es) {e : Ed} : e ∈ coG m es ↔ (0 ≤ e.1 ∧ e.1 < e.2 ∧ e.2 < (m : Int)) ∧ e ∉ es := by
  unfold coG compl
  rw [List.take_length, List.mem_filter, mem_prs]
  constructor
  · rintro ⟨h1, h2⟩
    refine ⟨h1, fun h3 => ?_⟩
    simp only [Bool.not_eq_true', decide_eq_false_iff_not] at h2
    exact h2 ⟨e, h3, .inl ⟨rfl, rfl⟩⟩
  · rintro ⟨h1, h2⟩
    refine ⟨h1, ?_⟩
    simp only [Bool.not_eq_true', decide_eq_false_iff_not]
    rintro ⟨x, hx, h3⟩
    have hxi := hg.inr x hx
    rcases h3 with ⟨a, b⟩ | ⟨a, b⟩
    · exact h2 (by rwa [show e = x from Prod.ext a.symm b.symm])
    · omega
theorem gr_sub {m : Nat} {es fs : List Ed} (h1 : Gr m es) (h2 : Gr m fs) (h : ∀ e ∈ es, e ∈ fs) : es.Sublist fs := by
  have : es = fs.filter fun e => decide (e ∈ es) := gr_ext h1 (h2.filter _) fun x => by
    rw [List.mem_filter, decide_eq_true_iff]; exact ⟨fun hx => ⟨h x hx, hx⟩, fun hx => hx.2⟩
  rw [this]; exact List.filter_sublist
def PackP (m : Nat) (xs ys : List Int) : Prop := ∃ g h : List Ed, Gr m g ∧ Gr m h ∧ (∀ e ∈ h, e ∉ g) ∧ degs m g = xs ∧ degs m h = ys
theorem PackP.symm {m : Nat} {xs ys : List Int} : PackP m xs ys → PackP m ys xs := fun ⟨g, h, h1, h2, h3, h4, h5⟩ => ⟨h, g, h2, h1, fun e he hh => h3 e hh he, h5, h4⟩
theorem pack_iff {xs ys : List Int} (hV : Valid xs) (hF : Valid ys) (hl : xs.length = ys.length) (h5 : xs.length ≤ 5) : (relV (fun es => compl xs.length es (prs xs.length).length) xs ys).isSome = true ↔ PackP xs.length xs ys := by
  rw [relV_isSome hV hF hl h5 fun g _ => coG_gr _ g]
  constructor
  · rintro ⟨g, h, h1, h2, h3, h4⟩
    exact ⟨g, h, h1, gr_of_sublist (h3.trans (compl_sub _ _ _)), fun e he => ((mem_coG h1).1 (h3.subset he)).2, h2, h4⟩
  · rintro ⟨g, h, h1, h2, h3, h4, h6⟩
    exact ⟨g, h, h1, h4, gr_sub h2 (coG_gr _ _) fun e he => (mem_coG h1).2 ⟨h2.inr e he, h3 e he⟩, h6⟩
def uniG (m : Nat) (g h : List Ed) : List Ed := (prs m).filter fun e => decide (e ∈ g ∨ e ∈ h)
theorem uniG_gr (m : Nat) (g h : List Ed) : Gr m (uniG m g h) := gr_filter _
theorem mem_uniG {m : Nat} {g h : List Ed} (h1 : Gr m g) (h2 : Gr m h) {e : Ed} : e ∈ uniG m g h ↔ e ∈ g ∨ e ∈ h := by
  unfold uniG
  rw [List.mem_filter, decide_eq_true_iff, mem_prs]
  exact ⟨fun h => h.2, fun h => ⟨h.elim (h1.inr e) (h2.inr e), h⟩⟩
theorem uni_count {m : Nat} {g h : List Ed} (h1 : Gr m g) (h2 : Gr m h) (hd : ∀ e ∈ h, e ∉ g) (v : Nat) : dcount (uniG m g h) v = dcount g v + dcount h v := by
  have hu := uniG_gr m g h
  have hs : g.Sublist (uniG m g h) := gr_sub h1 hu fun e he => (mem_uniG h1 h2).2 (.inl he)
  have e1 := dcount_split hu.nodup hs v
  have e2 : (uniG m g h).filter (fun e => !decide (e ∈ g)) = h := gr_ext (hu.filter _) h2 fun x => by
    rw [List.mem_filter, mem_uniG h1 h2]
    simp only [Bool.not_eq_true', decide_eq_false_iff_not]
    exact ⟨fun h => h.1.resolve_left h.2, fun hx => ⟨.inr hx, hd x hx⟩⟩
  rw [e1, e2]
def sumTo (xs ys : List Int) (k : Nat) : List Int := (List.range k).map fun v => xs.getD v 0 + ys.getD v 0
theorem sumTo_succ (xs ys : List Int) (k : Nat) : sumTo xs ys (k + 1) = sumTo xs ys k ++ [xs.getD k 0 + ys.getD k 0] := map_range_succ _ _
theorem sumTo_len (xs ys : List Int) (k : Nat) : (sumTo xs ys k).length = k := by simp [sumTo]
theorem sumTo_get {xs ys : List Int} {k v : Nat} (h : v < k) : (sumTo xs ys k).getD v 0 = xs.getD v 0 + ys.getD v 0 := by simp [sumTo, List.getD_eq_getElem?_getD, h]
theorem uni_degs {m : Nat} {g h : List Ed} {xs ys : List Int} (h1 : Gr m g) (h2 : Gr m h) (hd : ∀ e ∈ h, e ∉ g) (e1 : degs m g = xs) (e2 : degs m h = ys) : degs m (uniG m g h) = sumTo xs ys m := by
  refine list_ext_getD (by rw [degs_length, sumTo_len]) fun j hj => ?_
  rw [degs_length] at hj
  rw [sumTo_get hj, ← e1, ← e2, degs_get (uniG_gr m g h).inr, degs_get h1.inr, degs_get h2.inr, uni_count h1 h2 hd]; omega
theorem gr_valid {m : Nat} {g : List Ed} (h : Gr m g) (hm : m ≤ 7) : Valid (degs m g) := ⟨by rw [degs_length]; exact hm, fun x hx => by
  obtain ⟨j, hj, rfl⟩ := List.getElem_of_mem hx
  rw [degs_length] at hj ⊢
  have e : (degs m g)[j] = (degs m g).getD j 0 := by simp [List.getD_eq_getElem?_getD, degs_length, hj]
  rw [e, degs_get h.inr]
  have := dcount_bd h hm hj
  omega⟩
/-- packing is a factor of the sums -/
theorem pack_whole {xs ys : List Int} (hV : Valid xs) (hF : Valid ys) (hl : xs.length = ys.length) (h5 : xs.length ≤ 5) : (relV (fun es => es) (sumTo xs ys xs.length) ys).isSome = true ↔ PackP xs.length xs ys := by
  have hsl := sumTo_len xs ys xs.length
  by_cases hS : Valid (sumTo xs ys xs.length)
  · rw [relV_isSome hS hF (by omega) (by omega) fun g hg => hg, hsl]
    constructor
    · rintro ⟨u, h, h1, h2, h3, h4⟩
      have hh : Gr xs.length h := gr_of_sublist (h3.trans h1.sublist)
      refine ⟨u.filter fun e => !decide (e ∈ h), h, h1.filter _, hh, fun e he hx => ?_, ?_, h4⟩
      · have := (List.mem_filter.1 hx).2; simp [he] at this
      · refine list_ext_getD (by rw [degs_length]) fun j hj => ?_
        rw [degs_length] at hj
        have e1 := dcount_split h1.nodup h3 j
        have e2 : (degs xs.length u).getD j 0 = xs.getD j 0 + ys.getD j 0 := by rw [h2, sumTo_get hj]
        have e3 : (degs xs.length h).getD j 0 = ys.getD j 0 := by rw [h4]
        rw [degs_get h1.inr] at e2
        rw [degs_get hh.inr] at e3
        rw [degs_get (h1.filter _).inr]
        omega
    · rintro ⟨g, h, h1, h2, h3, h4, h6⟩
      exact ⟨uniG xs.length g h, h, uniG_gr _ _ _, uni_degs h1 h2 h3 h4 h6, gr_sub h2 (uniG_gr _ _ _) fun e he => (mem_uniG h1 h2).2 (.inr he), h6⟩
  · constructor
    · intro h
      rw [show relV (fun es => es) (sumTo xs ys xs.length) ys = none from if_neg fun h => hS h.1] at h; cases h
    · rintro ⟨g, h, h1, h2, h3, h4, h6⟩
      exact absurd (by rw [← uni_degs h1 h2 h3 h4 h6]; exact gr_valid (uniG_gr _ _ _) (by omega)) hS
def uniV (N : Int) (es : List Ed) (M : Int) (fs : List Ed) : Int × List Ed × Bool := if ValidG N es ∧ ValidG M fs ∧ N = M then (N, uniG N.toNat es fs, true) else (0, [], false)
def cplV (N : Int) (es : List Ed) : Int × List Ed := if ValidG N es then (N, coG N.toNat es) else (0, [])
/-- what is packed -/
theorem pack_yes {xs ys : List Int} (hV : Valid xs) (hF : Valid ys) (hl : xs.length = ys.length) (h5 : xs.length ≤ 5) (h : (relV (fun es => compl xs.length es (prs xs.length).length) xs ys).isSome = true) :
    let o := relV (fun es => compl xs.length es (prs xs.length).length) xs ys
    relN xs.length o = (xs.length : Int) ∧ ValidG (xs.length : Int) (rel1 o) ∧ ValidG (xs.length : Int) (rel2 o) ∧ degV (xs.length : Int) (rel1 o) = xs ∧ uniV (xs.length : Int) (rel1 o) (xs.length : Int) (rel2 o) = ((xs.length : Int), uniG xs.length (rel1 o) (rel2 o), true) ∧ degV (xs.length : Int) (uniG xs.length (rel1 o) (rel2 o)) = sumTo xs ys xs.length ∧ cplV (xs.length : Int) (rel1 o) = ((xs.length : Int), coG xs.length (rel1 o)) ∧ ValidG (xs.length : Int) (coG xs.length (rel1 o)) ∧ ∀ e ∈ rel2 o, e ∈ coG xs.length (rel1 o) := by
  obtain ⟨⟨g, k⟩, hp⟩ := Option.isSome_iff_exists.1 h
  obtain ⟨h1, h2, h3, h4, h6⟩ := relV_some hV hF hl h5 (fun g _ => coG_gr _ g) hp
  have hm : xs.length ≤ 7 := by omega
  have hd : ∀ e ∈ k, e ∉ g := fun e he => ((mem_coG h1).1 (h3.subset he)).2
  have v1 := h1.valid hm
  have v2 := h4.valid hm
  have v3 := (coG_gr xs.length g).valid hm
  have v4 := (uniG_gr xs.length g k).valid hm
  intro o
  have ho : o = some (g, k) := hp
  rw [ho]
  refine ⟨rfl, v1, v2, ?_, ?_, ?_, ?_, v3, fun e he => h3.subset he⟩
  · show degV (xs.length : Int) g = xs; rw [degV_yes v1, h2]
  · show uniV (xs.length : Int) g (xs.length : Int) k = _
    unfold uniV; rw [if_pos ⟨v1, v2, rfl⟩, Int.toNat_natCast]; rfl
  · show degV (xs.length : Int) (uniG xs.length g k) = _; rw [degV_yes v4, uni_degs h1 h4 hd h2 h6]
  · show cplV (xs.length : Int) g = _; unfold cplV; rw [if_pos v1, Int.toNat_natCast]; rfl
theorem uniV_len {N : Int} {es : List Ed} {M : Int} {fs : List Ed} : (uniV N es M fs).2.1.length ≤ 21 := by
  unfold uniV; split
  · rename_i h
    have := h.1.2.2
    exact (uniG_gr _ _ _).len21 (by omega)
  · exact Nat.zero_le _
theorem cplV_len {N : Int} {es : List Ed} : (cplV N es).2.length ≤ 21 := by
  unfold cplV; split
  · rename_i h
    have := h.2.2
    exact (coG_gr _ _).len21 (by omega)
  · exact Nat.zero_le _
theorem pack_turn {xs ys : List Int} (hV : Valid xs) (hF : Valid ys) (hl : xs.length = ys.length) (h5 : xs.length ≤ 5) : (relV (fun es => compl xs.length es (prs xs.length).length) xs ys).isSome = (relV (fun es => compl ys.length es (prs ys.length).length) ys xs).isSome := by
  have h1 := pack_iff hV hF hl h5
  have h2 := pack_iff hF hV hl.symm (by omega)
  rw [Bool.eq_iff_iff, h1, h2, hl]
  exact ⟨PackP.symm, PackP.symm⟩
theorem pack_sum {xs ys : List Int} (hV : Valid xs) (hF : Valid ys) (hl : xs.length = ys.length) (h5 : xs.length ≤ 5) : (relV (fun es => compl xs.length es (prs xs.length).length) xs ys).isSome = (relV (fun es => es) (sumTo xs ys xs.length) ys).isSome := by
  rw [Bool.eq_iff_iff, pack_iff hV hF hl h5, pack_whole hV hF hl h5]
/-! ### forced edges -/
def forcB (xs : List Int) (e : Ed) : Bool := (allV xs).all fun g => decide (e ∈ g)
def forcV (xs : List Int) : List Ed := if 0 < (allV xs).length then (prs xs.length).filter (forcB xs) else []
theorem forcB_iff {xs : List Int} {e : Ed} : forcB xs e = true ↔ ∀ i, i < (allV xs).length → e ∈ (allV xs).getD i [] := by
  unfold forcB
  rw [List.all_eq_true]
  constructor
  · intro h i hi; simpa using h _ (getD_mem [] hi)
  · intro h g hg
    obtain ⟨i, hi, rfl⟩ := List.getElem_of_mem hg
    have := h i hi
    simpa [List.getD_eq_getElem?_getD, hi] using this
theorem forcV_len (xs : List Int) (h : xs.length ≤ 7) : (forcV xs).length ≤ 21 := by
  unfold forcV; split
  · exact Nat.le_trans (List.length_filter_le _ _) (prs_small _ h)
  · exact Nat.zero_le _
theorem forcV_len2 (xs : List Int) : (forcV xs).length ≤ 21 := by
  by_cases h : xs.length ≤ 7
  · exact forcV_len xs h
  · unfold forcV
    rw [show allV xs = [] from if_neg fun h2 => h (by omega)]; exact Nat.zero_le _
theorem forcV_mem {xs : List Int} {e : Ed} (h : e ∈ forcV xs) : 0 < (allV xs).length ∧ (0 ≤ e.1 ∧ e.1 < e.2 ∧ e.2 < (xs.length : Int)) ∧ ∀ i, i < (allV xs).length → e ∈ (allV xs).getD i [] := by
  unfold forcV at h
  split at h
  · rename_i h0
    obtain ⟨h1, h2⟩ := List.mem_filter.1 h
    exact ⟨h0, mem_prs.1 h1, forcB_iff.1 h2⟩
  · cases h
theorem forcV_one {xs : List Int} (h : (allV xs).length = 1) : forcV xs = (allV xs).getD 0 [] := by
  have hg := allV_gr (xs := xs) (i := 0) (by omega)
  unfold forcV
  rw [if_pos (by omega)]
  refine gr_ext (gr_filter _) hg fun x => ?_
  rw [List.mem_filter, forcB_iff, mem_prs]
  constructor
  · intro h2; exact h2.2 0 (by omega)
  · intro h2
    exact ⟨hg.inr x h2, fun i hi => by rw [show i = 0 from by omega]; exact h2⟩
theorem prs_degree : ∀ m : Nat, m ≤ 7 → ∀ v, v < m → dcount (prs m) v = m - 1 := by decide +kernel
theorem coG_count {m : Nat} {g : List Ed} (hg : Gr m g) (hm : m ≤ 7) {v : Nat} (hv : v < m) : dcount g v + dcount (coG m g) v = m - 1 := by
  rw [← prs_degree m hm v hv, dcount_split (Gr.nodup ⟨prs_sorted m, fun e he => mem_prs.1 he⟩) hg.sublist v]
  congr 1
  rw [show coG m g = (prs m).filter fun e => !decide (e ∈ g) from gr_ext (coG_gr m g) (gr_filter _) fun x => by
    rw [mem_coG hg, List.mem_filter, mem_prs]; simp]
/-- the complement of a realization of what the others are told is a realization -/
theorem compl_real {xs : List Int} (hV : Valid xs) (h5 : xs.length ≤ 5) {h : List Ed} (hh : h ∈ allV (complV xs)) : coG xs.length h ∈ allV xs := by
  have hcv := complV_valid hV
  have hl : (complV xs).length = xs.length := by rw [complV_turn hV, turn_length]
  have h1 := (mem_allV hcv (by omega)).1 hh
  rw [hl] at h1
  refine (mem_allV hV h5).2 ⟨coG_gr _ _, list_ext_getD (by rw [degs_length]) fun j hj => ?_⟩
  rw [degs_length] at hj
  have e1 : (degs xs.length h).getD j 0 = (complV xs).getD j 0 := by rw [h1.2]
  have e2 : (complV xs).getD j 0 = (xs.length : Int) - 1 - xs.getD j 0 := by
    rw [show complV xs = (List.range xs.length).map (complAt xs) from if_pos hV]
    simp [List.getD_eq_getElem?_getD, hj, complAt]
  rw [degs_get h1.1.inr, e2] at e1
  rw [degs_get (coG_gr _ _).inr]
  have := coG_count h1.1 (by omega) hj
  omega
theorem forc_other {xs : List Int} (hV : Valid xs) (h5 : xs.length ≤ 5) {e : Ed} (he : e ∈ forcV xs) {i : Nat} (hi : i < (allV (complV xs)).length) : e ∉ (allV (complV xs)).getD i [] := fun hm => by
  have hcv := complV_valid hV
  have hl : (complV xs).length = xs.length := by rw [complV_turn hV, turn_length]
  have h1 := compl_real hV h5 (getD_mem [] hi)
  have h2 := forcV_mem he
  obtain ⟨j, hj, e2⟩ := List.getElem_of_mem h1
  have h3 := h2.2.2 j hj
  have hg := allV_gr hi
  rw [hl] at hg
  have e3 : (allV xs).getD j [] = coG xs.length ((allV (complV xs)).getD i []) := by rw [← e2]; simp [List.getD_eq_getElem?_getD, hj]
  rw [e3] at h3
  exact ((mem_coG hg).1 h3).2 hm
/-! ### the edges that all have, told by a loop -/
def haveUp (xss : List (List Ed)) (e : Ed) (j : Nat) : Bool := decide (0 < xss.length) && (List.range j).all fun i => decide (e ∈ xss.getD i [])
theorem haveUp_succ (xss : List (List Ed)) (e : Ed) (j : Nat) : haveUp xss e (j + 1) = (haveUp xss e j && decide (e ∈ xss.getD j [])) := by
  unfold haveUp; rw [List.range_succ, List.all_append]; simp [Bool.and_assoc]
def haveTo (xss : List (List Ed)) (m k : Nat) : List Ed := ((prs m).take k).filter fun e => haveUp xss e xss.length
theorem haveTo_succ {xss : List (List Ed)} {m k : Nat} (h : k < (prs m).length) : haveTo xss m (k + 1) = haveTo xss m k ++ (if haveUp xss ((prs m).getD k (0, 0)) xss.length = true then [(prs m).getD k (0, 0)] else []) := by
  unfold haveTo
  rw [take_succ (0, 0) h, List.filter_append, List.filter_cons, List.filter_nil]
theorem haveTo_len (xss : List (List Ed)) (m k : Nat) : (haveTo xss m k).length ≤ (prs m).length := by
  unfold haveTo
  refine Nat.le_trans (List.length_filter_le _ _) ?_
  rw [List.length_take]; omega
theorem haveTo_forc (xs : List Int) : haveTo (allV xs) xs.length (prs xs.length).length = forcV xs := by
  unfold haveTo forcV
  rw [List.take_length]
  split
  · rename_i h
    refine congrArg (fun p => List.filter p (prs xs.length)) (funext fun e => ?_)
    rw [Bool.eq_iff_iff, forcB_iff]
    unfold haveUp
    rw [decide_eq_true h, Bool.true_and, List.all_eq_true]
    exact ⟨fun h2 i hi => of_decide_eq_true (h2 i (List.mem_range.2 hi)), fun h2 i hi => decide_eq_true (h2 i (List.mem_range.1 hi))⟩
  · rename_i h
    refine List.filter_eq_nil_iff.2 fun e _ => ?_
    unfold haveUp
    rw [decide_eq_false h]; simp
theorem minmax_lt {e : Ed} (h : e.1 < e.2) : (min e.1 e.2, max e.1 e.2) = e := Prod.ext (by simp; omega) (by simp; omega)
theorem hasE_prs {m k : Nat} {g : List Ed} (hg : Gr m g) (h : k < (prs m).length) : hasE g ((prs m).getD k (0, 0)).1 ((prs m).getD k (0, 0)).2 ↔ (prs m).getD k (0, 0) ∈ g := by
  have h9 := mem_prs.1 (getD_mem (xs := prs m) (0, 0) h)
  have e9 := minmax_lt h9.2.1
  rw [hasE_iff hg, e9]
end Go.Plain
