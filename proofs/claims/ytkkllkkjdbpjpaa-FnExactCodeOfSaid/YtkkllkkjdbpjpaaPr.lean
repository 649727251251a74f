/- Maps of graphs: there and back, and onto itself. No program in sight. Conditions: those of each theorem. -/
import Derived.Test.YtkkllkkjdbpjpaaPz
namespace Go.Plain
section
variable {m : Nat} {es fs : List Ed}
/-- the inverse of a map -/
def invT (m : Nat) (ts : List Int) : List Int := (List.range m).map fun (x : Nat) => ((ts.idxOf (x : Int) : Nat) : Int)
theorem invT_len (m : Nat) (ts : List Int) : (invT m ts).length = m := by simp [invT]
theorem invT_get {ts : List Int} {x : Nat} (hx : x < m) : (invT m ts).getD x 0 = ((ts.idxOf (x : Int) : Nat) : Int) := by simp [invT, List.getD_eq_getElem?_getD, hx]
theorem idxOf_at {ts : List Int} {x : Int} (h : x ∈ ts) : ts.idxOf x < ts.length ∧ ts.getD (ts.idxOf x) 0 = x := by
  have h1 := List.idxOf_lt_length_of_mem h
  refine ⟨h1, ?_⟩
  rw [List.getD_eq_getElem?_getD, List.getElem?_eq_getElem h1]
  exact List.getElem_idxOf h1
theorem OkT.mem {ts : List Int} (h : OkT m ts) (hl : ts.length = m) {x : Nat} (hx : x < m) : (x : Int) ∈ ts := by
  obtain ⟨i, hi, he⟩ := ts_surj h hl (x := (x : Int)) ⟨by omega, by omega⟩
  rw [← he]; exact getD_mem 0 (by omega)
theorem invT_ok {ts : List Int} (h : OkT m ts) (hl : ts.length = m) : OkT m (invT m ts) := by
  constructor
  · unfold invT
    rw [List.Nodup, List.pairwise_map]
    refine List.nodup_range.imp_of_mem fun {a b} ha hb hab he => hab ?_
    have ha2 := idxOf_at (h.mem hl (List.mem_range.1 ha))
    have hb2 := idxOf_at (h.mem hl (List.mem_range.1 hb))
    have e : ts.idxOf (a : Int) = ts.idxOf (b : Int) := by omega
    have : (a : Int) = (b : Int) := by rw [← ha2.2, ← hb2.2, e]
    omega
  · intro x hx
    obtain ⟨i, hi, rfl⟩ := List.mem_map.1 hx
    have := idxOf_at (h.mem hl (List.mem_range.1 hi))
    omega
theorem invT_cons {ts : List Int} (h : OkT m ts) (hl : ts.length = m) (hc : Cons es fs ts) : Cons fs es (invT m ts) := fun u v huv hv => by
  rw [invT_len] at hv
  have hu2 := idxOf_at (h.mem hl (x := u) (by omega))
  have hv2 := idxOf_at (h.mem hl (x := v) hv)
  rw [invT_get (by omega), invT_get hv]
  have hne : ts.idxOf (u : Int) ≠ ts.idxOf (v : Int) := fun e => by
    have : (u : Int) = (v : Int) := by rw [← hu2.2, ← hv2.2, e]
    omega
  rcases Nat.lt_or_gt_of_ne hne with h1 | h1
  · have h2 := hc _ _ h1 hv2.1
    rw [hu2.2, hv2.2, Int.min_eq_left (by omega), Int.max_eq_right (by omega)] at h2
    rw [Int.min_eq_left (by omega), Int.max_eq_right (by omega)]; exact h2.symm
  · have h2 := hc _ _ h1 hu2.1
    rw [hu2.2, hv2.2, Int.min_eq_right (by omega), Int.max_eq_left (by omega)] at h2
    rw [Int.min_eq_right (by omega), Int.max_eq_left (by omega)]; exact h2.symm
theorem map_back (h : (mapI es fs m m []).isSome = true) : (mapI fs es m m []).isSome = true := by
  obtain ⟨out, ho⟩ := Option.isSome_iff_exists.1 h
  obtain ⟨h1, h2, h3⟩ := mapI_spec (okT_nil m) (by simp) cons_nil ho
  exact mapI_some (ts := []) (r := invT m out) (by rw [List.nil_append]; exact invT_ok h1 h2) (invT_len _ _) (by rw [List.nil_append]; exact invT_cons h1 h2 h3)
theorem ids_succ (j : Nat) : ids (j + 1) = ids j ++ [(j : Int)] := by simp [ids, List.range_succ]
theorem ids_mem {j : Nat} {x : Int} : x ∈ ids j ↔ 0 ≤ x ∧ x < (j : Int) := by
  constructor
  · intro h
    obtain ⟨i, hi, rfl⟩ := List.mem_map.1 h
    have := List.mem_range.1 hi
    exact ⟨Int.natCast_nonneg i, by show (i : Int) < j; omega⟩
  · intro h
    exact List.mem_map.2 ⟨x.toNat, List.mem_range.2 (by omega), by show ((x.toNat : Nat) : Int) = x; omega⟩
/-- the first map of a graph onto itself leaves all where they are -/
theorem mapI_ids (es : List Ed) : ∀ (k j : Nat), j + k = m → mapI es es m k (ids j) = some (ids m)
  | 0, j, h => by rw [mapI, show j = m from by omega]
  | k + 1, j, h => by
    rw [mapI]
    refine fsome_found (w := j) (by omega) ?_ fun w hw => ?_
    · have hfit : fitTo es es (ids j) (j : Int) (ids j).length = true := by
        refine fit_iff.2 ⟨fun hm => by have := ids_mem.1 hm; omega, fun u hu => ?_⟩
        rw [ids_length] at hu ⊢
        rw [ids_get hu, Int.min_eq_left (by omega), Int.max_eq_right (by omega)]
      rw [if_pos hfit, ← ids_succ]
      exact mapI_ids es k (j + 1) (by omega)
    · rw [if_neg fun hfit => (fit_iff.1 hfit).1 (ids_mem.2 ⟨by omega, by omega⟩)]
theorem mapI_onto (es : List Ed) (m : Nat) : mapI es es m m [] = some (ids m) := mapI_ids es m 0 (by omega)
theorem map_keeps {out : List Int} (h : mapI es fs m m [] = some out) : out.length = m ∧ (∀ i j, i < m → j < m → out.getD i 0 = out.getD j 0 → i = j) ∧ ∀ a b : Nat, b < a → a < m → (((b : Int), (a : Int)) ∈ es ↔ (min (out.getD a 0) (out.getD b 0), max (out.getD a 0) (out.getD b 0)) ∈ fs) := by
  obtain ⟨h1, h2, h3⟩ := mapI_spec (okT_nil m) (by simp) cons_nil h
  refine ⟨h2, fun i j hi hj he => ts_inj h1 (by omega) (by omega) he, fun a b hb ha => ?_⟩
  have := h3 b a hb (by omega)
  rw [Int.min_comm, Int.max_comm]; exact this
theorem prs_small5 : ∀ n : Nat, n ≤ 5 → (prs n).length ≤ 10 := by decide
end
theorem mapV_facts {m : Nat} {N2 : Int} {es fs : List Ed} (h1 : ValidG ((m : Nat) : Int) es) (h2 : ValidG N2 fs) (he : ((m : Nat) : Int) = N2) (h6 : m ≤ 6) : (mapV N2 fs ((m : Nat) : Int) es).2 = (mapV ((m : Nat) : Int) es N2 fs).2 ∧ mapV ((m : Nat) : Int) es ((m : Nat) : Int) es = (ids m, true) ∧ ((mapV ((m : Nat) : Int) es N2 fs).2 = true → (mapV ((m : Nat) : Int) es N2 fs).1.length = m ∧ (∀ i j, i < m → j < m → (mapV ((m : Nat) : Int) es N2 fs).1.getD i 0 = (mapV ((m : Nat) : Int) es N2 fs).1.getD j 0 → i = j) ∧ ∀ a b : Nat, b < a → a < m → (((b : Int), (a : Int)) ∈ es ↔ (min ((mapV ((m : Nat) : Int) es N2 fs).1.getD a 0) ((mapV ((m : Nat) : Int) es N2 fs).1.getD b 0), max ((mapV ((m : Nat) : Int) es N2 fs).1.getD a 0) ((mapV ((m : Nat) : Int) es N2 fs).1.getD b 0)) ∈ fs)) := by
  subst he
  have e1 : mapV ((m : Nat) : Int) es ((m : Nat) : Int) fs = ((mapI es fs m m []).getD [], (mapI es fs m m []).isSome) := (if_pos ⟨h1, h2, rfl, by omega⟩).trans (by rw [Int.toNat_natCast])
  have e2 : mapV ((m : Nat) : Int) fs ((m : Nat) : Int) es = ((mapI fs es m m []).getD [], (mapI fs es m m []).isSome) := (if_pos ⟨h2, h1, rfl, by omega⟩).trans (by rw [Int.toNat_natCast])
  have e3 : mapV ((m : Nat) : Int) es ((m : Nat) : Int) es = ((mapI es es m m []).getD [], (mapI es es m m []).isSome) := (if_pos ⟨h1, h1, rfl, by omega⟩).trans (by rw [Int.toNat_natCast])
  rw [e1, e2, e3, mapI_onto]
  refine ⟨?_, rfl, fun h => ?_⟩
  · rw [Bool.eq_iff_iff]; exact ⟨map_back, map_back⟩
  · obtain ⟨out, ho⟩ := Option.isSome_iff_exists.1 h
    rw [ho]; exact map_keeps ho
end Go.Plain
