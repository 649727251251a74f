/- Maps of graphs: the first one, with and without looking ahead. No program in sight. Conditions: those of each theorem. -/
import Derived.Test.YtkkllkkjdbpjpaaPh
namespace Go.Plain
/-! ### lists without a thing twice -/
theorem nodup_len {α : Type} [DecidableEq α] : ∀ {a b : List α}, a.Nodup → (∀ x ∈ a, x ∈ b) → a.length ≤ b.length
  | [], _, _, _ => Nat.zero_le _
  | x :: a, b, ha, hs => by
    rw [List.nodup_cons] at ha
    have hx := hs x (by simp)
    have h1 := nodup_len (a := a) (b := b.erase x) ha.2 (fun y hy => by
      have hne : y ≠ x := fun e => by subst e; exact ha.1 hy
      exact (List.mem_erase_of_ne hne).2 (hs y (List.mem_cons_of_mem _ hy)))
    have h2 := List.length_erase_of_mem hx
    have h3 := List.length_pos_of_mem hx
    rw [List.length_cons]; omega
theorem nodup_full {α : Type} [DecidableEq α] {a b : List α} (ha : a.Nodup) (hs : ∀ x ∈ a, x ∈ b) (hl : b.length ≤ a.length) : ∀ x ∈ b, x ∈ a := fun x hx => by
  by_cases h : x ∈ a
  · exact h
  · have h1 := nodup_len (a := x :: a) (b := b) (List.nodup_cons.2 ⟨h, ha⟩) (fun y hy => by
      rcases List.mem_cons.1 hy with rfl | hy
      · exact hx
      · exact hs y hy)
    rw [List.length_cons] at h1; omega
theorem nodup_perm {α : Type} [DecidableEq α] : ∀ {a b : List α}, a.Nodup → b.Nodup → (∀ x, x ∈ a ↔ x ∈ b) → a.Perm b
  | [], b, _, _, h => by
    rcases b with _ | ⟨y, b⟩
    · exact .nil
    · have := (h y).2 (by simp); cases this
  | x :: a, b, ha, hb, h => by
    rw [List.nodup_cons] at ha
    have hx : x ∈ b := (h x).1 (by simp)
    refine (List.Perm.cons x ?_).trans (List.perm_cons_erase hx).symm
    refine nodup_perm ha.2 (hb.erase x) fun y => ?_
    rw [hb.mem_erase_iff]
    constructor
    · intro hy; exact ⟨fun e => by subst e; exact ha.1 hy, (h y).1 (List.mem_cons_of_mem _ hy)⟩
    · rintro ⟨h1, h2⟩; exact (List.mem_cons.1 ((h y).2 h2)).resolve_left h1
theorem fsome_found {β : Type} {f : Nat → Option β} {x : β} : ∀ {m w : Nat}, w < m → f w = some x → (∀ j, j < w → f j = none) → (List.range m).findSome? f = some x
  | 0, _, h, _, _ => absurd h (Nat.not_lt_zero _)
  | m + 1, w, h, hw, hn => by
    rw [List.range_succ, List.findSome?_append]
    rcases Nat.lt_succ_iff_lt_or_eq.1 h with h1 | rfl
    · rw [fsome_found h1 hw hn]; rfl
    · have : (List.range w).findSome? f = none := List.findSome?_eq_none_iff.2 fun j hj => hn j (List.mem_range.1 hj)
      rw [this]; simp [hw]
theorem fsome_none {β : Type} {f : Nat → Option β} {m : Nat} (hn : ∀ j, j < m → f j = none) : (List.range m).findSome? f = none := List.findSome?_eq_none_iff.2 fun j hj => hn j (List.mem_range.1 hj)
theorem fsome_congr {β : Type} {f g : Nat → Option β} {m : Nat} (h : ∀ j, j < m → f j = g j) : (List.range m).findSome? f = (List.range m).findSome? g := by
  induction m with
  | zero => rfl
  | succ m ih => rw [List.range_succ, List.findSome?_append, List.findSome?_append, ih fun j hj => h j (by omega)]; simp [h m (by omega)]
/-! ### edges of two vertices -/
theorem hasE_iff {n : Nat} {es : List Ed} (hg : Gr n es) (a b : Int) : hasE es a b ↔ (min a b, max a b) ∈ es := by
  constructor
  · rintro ⟨x, hx, h⟩
    have h1 := hg.inr x hx
    have e : x = (min a b, max a b) := Prod.ext (by dsimp only; omega) (by dsimp only; omega)
    rw [← e]; exact hx
  · intro h
    rcases Int.le_total a b with hab | hab
    · exact ⟨_, h, .inl ⟨by dsimp only; omega, by dsimp only; omega⟩⟩
    · exact ⟨_, h, .inr ⟨by dsimp only; omega, by dsimp only; omega⟩⟩
def fitTo (es fs : List Ed) (ts : List Int) (w : Int) (u : Nat) : Bool := !decide (w ∈ ts) && (List.range u).all fun (q : Nat) => decide ((min (q : Int) (ts.length : Int), max (q : Int) (ts.length : Int)) ∈ es) == decide ((min (ts.getD q 0) w, max (ts.getD q 0) w) ∈ fs)
theorem fitTo_zero (es fs : List Ed) (ts : List Int) (w : Int) : fitTo es fs ts w 0 = !decide (w ∈ ts) := by simp [fitTo]
theorem fitTo_succ (es fs : List Ed) (ts : List Int) (w : Int) (u : Nat) : fitTo es fs ts w (u + 1) = (fitTo es fs ts w u && (decide ((min (u : Int) (ts.length : Int), max (u : Int) (ts.length : Int)) ∈ es) == decide ((min (ts.getD u 0) w, max (ts.getD u 0) w) ∈ fs))) := by
  unfold fitTo; rw [List.range_succ, List.all_append, Bool.and_assoc]; simp
def mapI (es fs : List Ed) (m : Nat) : Nat → List Int → Option (List Int)
  | 0, ts => some ts
  | k + 1, ts => (List.range m).findSome? fun (w : Nat) => if fitTo es fs ts (w : Int) ts.length = true then mapI es fs m k (ts ++ [(w : Int)]) else none
def isMapP (es fs : List Ed) (ts : List Int) : Prop := (∀ e ∈ es, hasE fs (ts.getD e.1.toNat 0) (ts.getD e.2.toNat 0)) ∧ es.length = fs.length
instance (es fs : List Ed) (ts : List Int) : Decidable (isMapP es fs ts) := by unfold isMapP; exact inferInstance
def mapS (es fs : List Ed) (m : Nat) : Nat → List Int → Option (List Int)
  | 0, ts => if isMapP es fs ts then some ts else none
  | k + 1, ts => (List.range m).findSome? fun (w : Nat) => if (w : Int) ∈ ts then none else mapS es fs m k (ts ++ [(w : Int)])
structure OkT (m : Nat) (ts : List Int) : Prop where
  nodup : ts.Nodup
  inr : ∀ x ∈ ts, 0 ≤ x ∧ x < (m : Int)
theorem OkT.snoc {m : Nat} {ts : List Int} (h : OkT m ts) {w : Nat} (hw : w < m) (hn : (w : Int) ∉ ts) : OkT m (ts ++ [(w : Int)]) := by
  refine ⟨?_, fun x hx => ?_⟩
  · rw [List.nodup_append]
    refine ⟨h.nodup, by simp, fun a ha b hb => ?_⟩
    simp only [List.mem_singleton] at hb; subst hb
    intro e; subst e; exact hn ha
  · rcases List.mem_append.1 hx with h1 | h1
    · exact h.inr x h1
    · simp only [List.mem_singleton] at h1; subst h1; omega
theorem OkT.len {m : Nat} {ts : List Int} (h : OkT m ts) : ts.length ≤ m := by
  have := nodup_len h.nodup (b := ids m) fun x hx => by
    have := h.inr x hx
    exact List.mem_map.2 ⟨x.toNat, List.mem_range.2 (by omega), by simp; omega⟩
  rwa [ids_length] at this
theorem okT_nil (m : Nat) : OkT m [] := ⟨.nil, fun _ h => by cases h⟩
/-- pairs have edges in both graphs or in none -/
def Cons (es fs : List Ed) (ts : List Int) : Prop := ∀ u v : Nat, u < v → v < ts.length → (((u : Int), (v : Int)) ∈ es ↔ (min (ts.getD u 0) (ts.getD v 0), max (ts.getD u 0) (ts.getD v 0)) ∈ fs)
theorem getD_snoc_lt {ts : List Int} {w : Int} {u : Nat} (h : u < ts.length) : (ts ++ [w]).getD u 0 = ts.getD u 0 := by
  simp [List.getD_eq_getElem?_getD, List.getElem?_append, h]
theorem getD_snoc_eq {ts : List Int} {w : Int} : (ts ++ [w]).getD ts.length 0 = w := by simp [List.getD_eq_getElem?_getD]
theorem fit_iff {es fs : List Ed} {ts : List Int} {w : Int} : fitTo es fs ts w ts.length = true ↔ w ∉ ts ∧ ∀ u : Nat, u < ts.length → (((u : Int), (ts.length : Int)) ∈ es ↔ (min (ts.getD u 0) w, max (ts.getD u 0) w) ∈ fs) := by
  unfold fitTo
  rw [Bool.and_eq_true, List.all_eq_true]
  constructor
  · rintro ⟨h1, h2⟩
    refine ⟨by simpa using h1, fun u hu => ?_⟩
    have h3 := h2 u (List.mem_range.2 hu)
    rw [Int.min_eq_left (by omega), Int.max_eq_right (by omega)] at h3
    simpa using h3
  · rintro ⟨h1, h2⟩
    refine ⟨by simpa using h1, fun u hu => ?_⟩
    have hu' := List.mem_range.1 hu
    rw [Int.min_eq_left (by omega), Int.max_eq_right (by omega)]
    simpa using h2 u hu'
theorem cons_snoc {es fs : List Ed} {ts : List Int} {w : Int} (h : Cons es fs ts) (hf : ∀ u : Nat, u < ts.length → (((u : Int), (ts.length : Int)) ∈ es ↔ (min (ts.getD u 0) w, max (ts.getD u 0) w) ∈ fs)) : Cons es fs (ts ++ [w]) := fun u v huv hv => by
  rw [List.length_append, List.length_singleton] at hv
  rcases Nat.lt_succ_iff_lt_or_eq.1 hv with h1 | rfl
  · rw [getD_snoc_lt (by omega), getD_snoc_lt h1]; exact h u v huv h1
  · rw [getD_snoc_lt huv, getD_snoc_eq]; exact hf u huv
theorem cons_back {es fs : List Ed} {ts : List Int} {w : Int} (h : Cons es fs (ts ++ [w])) : Cons es fs ts := fun u v huv hv => by
  have := h u v huv (by rw [List.length_append, List.length_singleton]; omega)
  rwa [getD_snoc_lt (by omega), getD_snoc_lt hv] at this
theorem cons_fit {es fs : List Ed} {ts : List Int} {w : Int} (h : Cons es fs (ts ++ [w])) : ∀ u : Nat, u < ts.length → (((u : Int), (ts.length : Int)) ∈ es ↔ (min (ts.getD u 0) w, max (ts.getD u 0) w) ∈ fs) := fun u hu => by
  have := h u ts.length hu (by rw [List.length_append, List.length_singleton]; omega)
  rwa [getD_snoc_lt hu, getD_snoc_eq] at this
section
variable {m : Nat} {es fs : List Ed} {ts : List Int}
theorem ts_inj (h : OkT m ts) {i j : Nat} (hi : i < ts.length) (hj : j < ts.length) (e : ts.getD i 0 = ts.getD j 0) : i = j := by
  have e1 : ts.getD i 0 = ts[i] := by simp [hi]
  have e2 : ts.getD j 0 = ts[j] := by simp [hj]
  rw [e1, e2] at e
  have hp := List.pairwise_iff_getElem.1 h.nodup
  rcases Nat.lt_trichotomy i j with h1 | h1 | h1
  · exact absurd e (hp i j hi hj h1)
  · exact h1
  · exact absurd e.symm (hp j i hj hi h1)
theorem ts_surj (h : OkT m ts) (hl : ts.length = m) {x : Int} (hx : 0 ≤ x ∧ x < (m : Int)) : ∃ i : Nat, i < m ∧ ts.getD i 0 = x := by
  have hm : x ∈ ts := nodup_full h.nodup (b := ids m) (fun y hy => by
      have := h.inr y hy
      exact List.mem_map.2 ⟨y.toNat, List.mem_range.2 (by omega), by simp; omega⟩) (by rw [ids_length]; omega) x (List.mem_map.2 ⟨x.toNat, List.mem_range.2 (by omega), by simp; omega⟩)
  obtain ⟨i, hi, rfl⟩ := List.mem_iff_getElem.1 hm
  exact ⟨i, by omega, by simp [hi]⟩
def imE (ts : List Int) (e : Ed) : Ed := (min (ts.getD e.1.toNat 0) (ts.getD e.2.toNat 0), max (ts.getD e.1.toNat 0) (ts.getD e.2.toNat 0))
theorem imE_inj (h : OkT m ts) (hl : ts.length = m) {a b : Ed} (ha : 0 ≤ a.1 ∧ a.1 < a.2 ∧ a.2 < (m : Int)) (hb : 0 ≤ b.1 ∧ b.1 < b.2 ∧ b.2 < (m : Int)) (e : imE ts a = imE ts b) : a = b := by
  unfold imE at e
  rw [Prod.mk.injEq] at e
  have key : (ts.getD a.1.toNat 0 = ts.getD b.1.toNat 0 ∧ ts.getD a.2.toNat 0 = ts.getD b.2.toNat 0) ∨ (ts.getD a.1.toNat 0 = ts.getD b.2.toNat 0 ∧ ts.getD a.2.toNat 0 = ts.getD b.1.toNat 0) := by omega
  rcases key with ⟨h1, h2⟩ | ⟨h1, h2⟩
  · have := ts_inj h (by omega) (by omega) h1
    have := ts_inj h (by omega) (by omega) h2
    exact Prod.ext (by omega) (by omega)
  · have := ts_inj h (by omega) (by omega) h1
    have := ts_inj h (by omega) (by omega) h2
    omega
theorem imE_nodup (h : OkT m ts) (hl : ts.length = m) (hg : Gr m es) : (es.map (imE ts)).Nodup := by
  have hn := hg.nodup
  have hi := hg.inr
  clear hg
  induction es with
  | nil => exact .nil
  | cons e r ih =>
    rw [List.nodup_cons] at hn
    rw [List.map_cons, List.nodup_cons]
    refine ⟨fun hm => ?_, ih hn.2 fun x hx => hi x (List.mem_cons_of_mem _ hx)⟩
    obtain ⟨x, hx, hxe⟩ := List.mem_map.1 hm
    have := imE_inj h hl (hi x (List.mem_cons_of_mem _ hx)) (hi e (by simp)) hxe
    subst this; exact hn.1 hx
theorem map_cons (h : OkT m ts) (hl : ts.length = m) (hg : Gr m es) (hf : Gr m fs) (hm : isMapP es fs ts) : Cons es fs ts := by
  have hsub : ∀ x ∈ es.map (imE ts), x ∈ fs := fun x hx => by
    obtain ⟨e, he, rfl⟩ := List.mem_map.1 hx
    exact (hasE_iff hf _ _).1 (hm.1 e he)
  have hfull := nodup_full (imE_nodup h hl hg) hsub (by rw [List.length_map]; have := hm.2; omega)
  intro u v huv hv
  constructor
  · intro he
    have := hsub _ (List.mem_map.2 ⟨_, he, rfl⟩)
    unfold imE at this; simpa using this
  · intro hfm
    obtain ⟨e, he, hee⟩ := List.mem_map.1 (hfull _ hfm)
    have hee2 : imE ts e = imE ts ((u : Int), (v : Int)) := by rw [hee]; unfold imE; simp
    have := imE_inj h hl (hg.inr e he) (by dsimp only; omega) hee2
    subst this; exact he
theorem cons_sub (hg : Gr m es) (hl : ts.length = m) (hc : Cons es fs ts) : ∀ e ∈ es, imE ts e ∈ fs := fun e he => by
  have hi := hg.inr e he
  have h1 := hc e.1.toNat e.2.toNat (by omega) (by omega)
  rw [Int.toNat_of_nonneg hi.1, Int.toNat_of_nonneg (by omega)] at h1
  exact h1.1 he
theorem cons_sup (h : OkT m ts) (hl : ts.length = m) (hf : Gr m fs) (hc : Cons es fs ts) : ∀ x ∈ fs, x ∈ es.map (imE ts) := fun x hx => by
  have hi := hf.inr x hx
  obtain ⟨a, ha, hae⟩ := ts_surj h hl (x := x.1) (by omega)
  obtain ⟨b, hb, hbe⟩ := ts_surj h hl (x := x.2) (by omega)
  have hab : a ≠ b := fun e => by subst e; omega
  rcases Nat.lt_or_gt_of_ne hab with h1 | h1
  · have h2 := (hc a b h1 (by omega)).2 (by
      rw [hae, hbe, Int.min_eq_left (by omega), Int.max_eq_right (by omega)]; exact hx)
    exact List.mem_map.2 ⟨_, h2, by unfold imE; simp only [Int.toNat_natCast]; rw [hae, hbe, Int.min_eq_left (by omega), Int.max_eq_right (by omega)]⟩
  · have h2 := (hc b a h1 (by omega)).2 (by
      rw [hae, hbe, Int.min_eq_right (by omega), Int.max_eq_left (by omega)]; exact hx)
    exact List.mem_map.2 ⟨_, h2, by unfold imE; simp only [Int.toNat_natCast]; rw [hae, hbe, Int.min_eq_right (by omega), Int.max_eq_left (by omega)]⟩
theorem cons_map (h : OkT m ts) (hl : ts.length = m) (hg : Gr m es) (hf : Gr m fs) (hc : Cons es fs ts) : isMapP es fs ts := by
  refine ⟨fun e he => (hasE_iff hf _ _).2 (cons_sub hg hl hc e he), ?_⟩
  have h1 := nodup_len (imE_nodup h hl hg) (b := fs) fun x hx => by
    obtain ⟨e, he, rfl⟩ := List.mem_map.1 hx; exact cons_sub hg hl hc e he
  have h2 := nodup_len hf.nodup (cons_sup h hl hf hc)
  rw [List.length_map] at h1 h2
  omega
theorem noS (hg : Gr m es) (hf : Gr m fs) : ∀ {k : Nat} {ts : List Int}, OkT m ts → ts.length + k = m → ¬ Cons es fs ts → mapS es fs m k ts = none
  | 0, ts, h, hl, hn => if_neg fun hm => hn (map_cons h (by omega) hg hf hm)
  | k + 1, ts, h, hl, hn => fsome_none fun w hw => by
    split
    · rfl
    · rename_i hwn
      exact noS hg hf (h.snoc hw hwn) (by rw [List.length_append, List.length_singleton]; omega) fun hc => hn (cons_back hc)
theorem mapI_eq (hg : Gr m es) (hf : Gr m fs) : ∀ {k : Nat} {ts : List Int}, OkT m ts → ts.length + k = m → Cons es fs ts → mapI es fs m k ts = mapS es fs m k ts
  | 0, ts, h, hl, hc => (if_pos (cons_map h (by omega) hg hf hc)).symm
  | k + 1, ts, h, hl, hc => fsome_congr fun w hw => by
    by_cases hwn : (w : Int) ∈ ts
    · rw [if_pos hwn, if_neg fun hfit => (fit_iff.1 hfit).1 hwn]
    · rw [if_neg hwn]
      by_cases hfit : fitTo es fs ts (w : Int) ts.length = true
      · rw [if_pos hfit]
        exact mapI_eq hg hf (h.snoc hw hwn) (by rw [List.length_append, List.length_singleton]; omega) (cons_snoc hc (fit_iff.1 hfit).2)
      · rw [if_neg hfit]
        exact (noS hg hf (h.snoc hw hwn) (by rw [List.length_append, List.length_singleton]; omega) fun hc2 => hfit (fit_iff.2 ⟨hwn, cons_fit hc2⟩)).symm
theorem cons_nil : Cons es fs [] := fun _ _ _ h => absurd h (Nat.not_lt_zero _)
/-- what is found is whole -/
theorem mapI_spec : ∀ {k : Nat} {ts out : List Int}, OkT m ts → ts.length + k = m → Cons es fs ts → mapI es fs m k ts = some out → OkT m out ∧ out.length = m ∧ Cons es fs out
  | 0, ts, out, h, hl, hc, e => by
    rw [mapI] at e; injection e with e; subst e; exact ⟨h, by omega, hc⟩
  | k + 1, ts, out, h, hl, hc, e => by
    rw [mapI] at e
    obtain ⟨w, hw, e2⟩ := List.exists_of_findSome?_eq_some e
    split at e2
    · rename_i hfit
      have hf2 := fit_iff.1 hfit
      exact mapI_spec (h.snoc (List.mem_range.1 hw) hf2.1) (by rw [List.length_append, List.length_singleton]; omega) (cons_snoc hc hf2.2) e2
    · cases e2
theorem mapI_lenD : ((mapI es fs m m []).getD []).length ≤ m := by
  rcases h : mapI es fs m m [] with _ | out
  · exact Nat.zero_le _
  · exact Nat.le_of_eq (mapI_spec (okT_nil m) (by simp) cons_nil h).2.1
theorem dcount_im (h : OkT m ts) (hl : ts.length = m) (hi : ∀ e ∈ es, 0 ≤ e.1 ∧ e.1 < e.2 ∧ e.2 < (m : Int)) {v : Nat} (hv : v < m) : dcount (es.map (imE ts)) (ts.getD v 0).toNat = dcount es v := by
  unfold dcount
  rw [List.countP_map]
  refine List.countP_congr fun e he => ?_
  have he2 := hi e he
  have hr := h.inr _ (getD_mem (xs := ts) (k := v) 0 (by omega))
  show decide ((((ts.getD v 0).toNat : Nat) : Int) = min (ts.getD e.1.toNat 0) (ts.getD e.2.toNat 0) ∨ (((ts.getD v 0).toNat : Nat) : Int) = max (ts.getD e.1.toNat 0) (ts.getD e.2.toNat 0)) = true ↔ _
  rw [decide_eq_true_iff, decide_eq_true_iff, Int.toNat_of_nonneg hr.1]
  constructor
  · intro hx
    have key : ts.getD v 0 = ts.getD e.1.toNat 0 ∨ ts.getD v 0 = ts.getD e.2.toNat 0 := by omega
    rcases key with h1 | h1
    · have := ts_inj h (by omega) (by omega) h1; left; omega
    · have := ts_inj h (by omega) (by omega) h1; right; omega
  · intro hx
    rcases hx with h1 | h1
    · rw [show v = e.1.toNat from by omega]; omega
    · rw [show v = e.2.toNat from by omega]; omega
theorem cons_degs (h : OkT m ts) (hl : ts.length = m) (hg : Gr m es) (hf : Gr m fs) (hc : Cons es fs ts) : (degs m es).Perm (degs m fs) := by
  have hperm : fs.Perm (es.map (imE ts)) := nodup_perm hf.nodup (imE_nodup h hl hg) fun x => ⟨cons_sup h hl hf hc x, fun hx => by
    obtain ⟨e, he, rfl⟩ := List.mem_map.1 hx; exact cons_sub hg hl hc e he⟩
  have hd : ∀ v : Nat, v < m → dcount fs (ts.getD v 0).toNat = dcount es v := fun v hv => by
    rw [← dcount_im h hl hg.inr hv]; unfold dcount; exact hperm.countP_eq _
  have e1 := list_of_getD (xs := degs m es) (f := fun v => (dcount es v : Int)) fun i _ => degs_get hg.inr i
  have e2 := list_of_getD (xs := degs m fs) (f := fun v => (dcount fs v : Int)) fun i _ => degs_get hf.inr i
  rw [degs_length] at e1 e2
  have e3 : ts.map (fun x => (dcount fs x.toNat : Int)) = degs m es := by
    rw [e1]
    have e4 := list_of_getD (xs := ts.map fun x => (dcount fs x.toNat : Int)) (f := fun v => (dcount es v : Int)) fun i hi => by
      rw [List.length_map] at hi
      rw [← hd i (by omega)]
      simp [List.getD_eq_getElem?_getD, hi]
    rw [List.length_map, hl] at e4; exact e4
  have e5 : (ids m).map (fun x => (dcount fs x.toNat : Int)) = degs m fs := by
    rw [e2]; unfold ids; rw [List.map_map]; rfl
  rw [← e3, ← e5]
  refine List.Perm.map _ (nodup_perm h.nodup ?_ fun x => ?_)
  · unfold ids
    rw [List.Nodup, List.pairwise_map]
    exact List.nodup_range.imp fun {a b} hab (he : (Int.ofNat a) = Int.ofNat b) => hab (Int.ofNat.inj he)
  · constructor
    · intro hx; have := h.inr x hx; exact List.mem_map.2 ⟨x.toNat, List.mem_range.2 (by omega), by simp; omega⟩
    · intro hx
      obtain ⟨i, hi, rfl⟩ := List.mem_map.1 hx
      have hi2 := List.mem_range.1 hi
      obtain ⟨j, hj, hje⟩ := ts_surj h hl (x := Int.ofNat i) (by simp; omega)
      rw [← hje]; exact getD_mem 0 (by omega)
theorem fall_perm_eq {a b : List Int} (h : a.Perm b) : fall a = fall b := sorted_unique ((fall_perm a).trans (h.trans (fall_perm b).symm)) (fall_sorted a) (fall_sorted b)
theorem alike_iff (hg : Gr m es) (hf : Gr m fs) : (es.length = fs.length ∧ fall (degs m es) = fall (degs m fs) ∧ (mapS es fs m m []).isSome = true) ↔ (mapI es fs m m []).isSome = true := by
  have he := mapI_eq hg hf (k := m) (okT_nil m) (by simp) cons_nil
  rw [← he]
  constructor
  · exact fun h => h.2.2
  · intro h
    obtain ⟨out, ho⟩ := Option.isSome_iff_exists.1 h
    obtain ⟨h1, h2, h3⟩ := mapI_spec (okT_nil m) (by simp) cons_nil ho
    exact ⟨(cons_map h1 h2 hg hf h3).2, fall_perm_eq (cons_degs h1 h2 hg hf h3), h⟩
theorem fit_of_cons {fs es : List Ed} {ts : List Int} {w : Int} (hn : w ∉ ts) (h : Cons es fs (ts ++ [w])) : fitTo es fs ts w ts.length = true := fit_iff.2 ⟨hn, cons_fit h⟩
/-- where there is a map that goes on from ts, one is found -/
theorem mapI_some : ∀ {k : Nat} {ts r : List Int}, OkT m (ts ++ r) → r.length = k → Cons es fs (ts ++ r) → (mapI es fs m k ts).isSome = true
  | 0, ts, r, _, _, _ => rfl
  | k + 1, ts, [], _, hl, _ => by simp at hl
  | k + 1, ts, x :: r, h, hl, hc => by
    have hx := h.inr x (by simp)
    have h2 : OkT m ((ts ++ [x]) ++ r) := by rw [List.append_assoc]; exact h
    have hc2 : Cons es fs ((ts ++ [x]) ++ r) := by rw [List.append_assoc]; exact hc
    have h3 := mapI_some (k := k) h2 (by simpa using hl) hc2
    have hnd : x ∉ ts := fun hm => by
      have := h.nodup
      rw [List.nodup_append] at this
      exact this.2.2 x hm x (by simp) rfl
    have hc3 : Cons es fs (ts ++ [x]) := by
      have : ∀ (r : List Int), Cons es fs ((ts ++ [x]) ++ r) → Cons es fs (ts ++ [x]) := fun r h u v huv hv => by
        have h9 := h u v huv (by rw [List.length_append]; omega)
        have g1 : ∀ j, j < (ts ++ [x]).length → ((ts ++ [x]) ++ r).getD j 0 = (ts ++ [x]).getD j 0 := fun j hj => by
          rw [List.getD_eq_getElem?_getD, List.getD_eq_getElem?_getD, List.getElem?_append_left hj]
        rwa [g1 u (by omega), g1 v hv] at h9
      exact this r hc2
    have hfit := fit_of_cons hnd hc3
    rw [mapI, List.findSome?_isSome_iff]
    refine ⟨x.toNat, List.mem_range.2 (by omega), ?_⟩
    rw [show ((x.toNat : Nat) : Int) = x from by omega, if_pos hfit]; exact h3
theorem mapI_self (es : List Ed) (m : Nat) (hg : Gr m es) : (mapI es es m m []).isSome = true := by
  have ho : OkT m ([] ++ ids m) := by
    rw [List.nil_append]
    refine ⟨?_, fun x hx => ?_⟩
    · unfold ids
      rw [List.Nodup, List.pairwise_map]
      exact List.nodup_range.imp fun {a b} hab (he : (Int.ofNat a) = Int.ofNat b) => hab (Int.ofNat.inj he)
    · obtain ⟨i, hi, rfl⟩ := List.mem_map.1 hx
      have := List.mem_range.1 hi
      constructor
      · exact Int.natCast_nonneg i
      · show (i : Int) < m; omega
  refine mapI_some ho (ids_length m) fun u v huv hv => ?_
  rw [List.nil_append, ids_length] at hv
  have g : ∀ j, j < m → ([] ++ ids m).getD j 0 = (j : Int) := fun j hj => by
    rw [List.nil_append]; unfold ids; simp [List.getD_eq_getElem?_getD, hj]
  rw [g u (by omega), g v hv, Int.min_eq_left (by omega), Int.max_eq_right (by omega)]
end
/-- the map, and whether there is one -/
def mapV (N : Int) (es : List Ed) (M : Int) (fs : List Ed) : List Int × Bool :=
  if ValidG N es ∧ ValidG M fs ∧ N = M ∧ N ≤ 6 then ((mapI es fs N.toNat N.toNat []).getD [], (mapI es fs N.toNat N.toNat []).isSome) else ([], false)
theorem mapV_len (N : Int) (es : List Ed) (M : Int) (fs : List Ed) : (mapV N es M fs).1.length ≤ 6 := by
  unfold mapV
  split
  · rename_i h
    have := mapI_lenD (m := N.toNat) (es := es) (fs := fs)
    dsimp only; omega
  · exact Nat.zero_le _
end Go.Plain
