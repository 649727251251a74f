/- All graphs of given degrees in an order of edges: the list, how a search runs through it, with and without looking ahead. No program in sight. Conditions: those of each theorem. -/
import Derived.Test.YtkkllkkjdbpjpaaPm
import Derived.Test.YtkkllkkjdbpjpaaSz
namespace Go.Plain
open Go.Sx
def decE (ls : List Int) (e : Ed) : List Int := (ls.set e.1.toNat (ls.getD e.1.toNat 0 - 1)).set e.2.toNat ((ls.set e.1.toNat (ls.getD e.1.toNat 0 - 1)).getD e.2.toNat 0 - 1)
def incE (ls : List Int) (e : Ed) : List Int := (ls.set e.1.toNat (ls.getD e.1.toNat 0 + 1)).set e.2.toNat ((ls.set e.1.toNat (ls.getD e.1.toNat 0 + 1)).getD e.2.toNat 0 + 1)
def allZ (ls : List Int) : Prop := ∀ x ∈ ls, 0 ≤ x ∧ x ≤ 0
def mayE (ls : List Int) (e : Ed) : Prop := 0 < ls.getD e.1.toNat 0 ∧ 0 < ls.getD e.2.toNat 0
instance (ls : List Int) : Decidable (allZ ls) := by unfold allZ; exact inferInstance
instance (ls : List Int) (e : Ed) : Decidable (mayE ls e) := by unfold mayE; exact inferInstance
def allR : List Ed → List Int → List Ed → List (List Ed)
  | [], ls, ch => if allZ ls then [ch] else []
  | e :: r, ls, ch => (if mayE ls e then allR r (decE ls e) (ch ++ [e]) else []) ++ allR r ls ch
/-- an edge of a list of so many degrees -/
def OkE (m : Nat) (e : Ed) : Prop := 0 ≤ e.1 ∧ e.1 < e.2 ∧ e.2 < (m : Int)
theorem decE_length (ls : List Int) (e : Ed) : (decE ls e).length = ls.length := by unfold decE; simp
theorem getD_set_neI {ls : List Int} {i j : Nat} {v : Int} (h : i ≠ j) : (ls.set i v).getD j 0 = ls.getD j 0 := by
  simp [List.getD_eq_getElem?_getD, List.getElem?_set, h]
theorem getD_set_eq {ls : List Int} {i : Nat} {v : Int} (h : i < ls.length) : (ls.set i v).getD i 0 = v := by
  simp [List.getD_eq_getElem?_getD, h]
theorem decE_get {ls : List Int} {e : Ed} (he : OkE ls.length e) (j : Nat) : (decE ls e).getD j 0 = ls.getD j 0 - (if ((j : Nat) : Int) = e.1 ∨ ((j : Nat) : Int) = e.2 then 1 else 0) := by
  obtain ⟨h1, h2, h3⟩ := he
  unfold decE
  rw [getD_set_neI (i := e.1.toNat) (j := e.2.toNat) (by omega)]
  by_cases hb : j = e.2.toNat
  · subst hb
    rw [getD_set_eq (by rw [List.length_set]; omega), if_pos (by omega)]
  · rw [getD_set_neI (by omega)]
    by_cases ha : j = e.1.toNat
    · subst ha; rw [getD_set_eq (by omega), if_pos (by omega)]
    · rw [getD_set_neI (by omega), if_neg (by omega)]; omega
theorem incE_get {ls : List Int} {e : Ed} (he : OkE ls.length e) (j : Nat) : (incE ls e).getD j 0 = ls.getD j 0 + (if ((j : Nat) : Int) = e.1 ∨ ((j : Nat) : Int) = e.2 then 1 else 0) := by
  obtain ⟨h1, h2, h3⟩ := he
  unfold incE
  rw [getD_set_neI (i := e.1.toNat) (j := e.2.toNat) (by omega)]
  by_cases hb : j = e.2.toNat
  · subst hb
    rw [getD_set_eq (by rw [List.length_set]; omega), if_pos (by omega)]
  · rw [getD_set_neI (by omega)]
    by_cases ha : j = e.1.toNat
    · subst ha; rw [getD_set_eq (by omega), if_pos (by omega)]
    · rw [getD_set_neI (by omega), if_neg (by omega)]; omega
theorem list_ext_getD {a b : List Int} (hl : a.length = b.length) (h : ∀ j, j < a.length → a.getD j 0 = b.getD j 0) : a = b := by
  apply List.ext_getElem hl
  intro j h1 h2
  have := h j h1
  simpa [h1, h2] using this
theorem inc_dec {ls : List Int} {e : Ed} (he : OkE ls.length e) : incE (decE ls e) e = ls := by
  have hl := decE_length ls e
  refine list_ext_getD (by unfold incE; simp [hl]) fun j _ => ?_
  rw [incE_get (by rw [hl]; exact he), decE_get he]; omega
theorem decE_bd {ls : List Int} {e : Ed} (he : OkE ls.length e) (hm : mayE ls e) (hls : ∀ x ∈ ls, 0 ≤ x ∧ x ≤ 1000) : ∀ x ∈ decE ls e, 0 ≤ x ∧ x ≤ 1000 := fun x hx => by
  obtain ⟨j, hj, rfl⟩ := List.mem_iff_getElem.1 hx
  rw [decE_length] at hj
  have h1 := decE_get he j
  have e1 : (decE ls e).getD j 0 = (decE ls e)[j] := by simp [decE_length, hj]
  have h2 := hls _ (getD_mem (xs := ls) (k := j) 0 hj)
  rw [e1] at h1
  rw [h1]
  obtain ⟨h3, h4⟩ := hm
  split
  · rename_i hc
    rcases hc with hc | hc
    · rw [show e.1.toNat = j from by omega] at h3; omega
    · rw [show e.2.toNat = j from by omega] at h4; omega
  · omega
theorem drop_getD {α : Type} {es : List α} {i : Nat} (z : α) (h : i < es.length) : es.drop i = es.getD i z :: es.drop (i + 1) := by
  rw [List.drop_eq_getElem_cons h]; simp [h]
/-! ### how a search runs through the list -/
section
variable {σ : Type} {b : Bool} {J : σ → List Ed → σ → Prop} {s s1 s2 : σ} {L1 L2 : List (List Ed)}
def runP (b : Bool) (J : σ → List Ed → σ → Prop) : σ → List (List Ed) → σ → Prop
  | s, [], s' => s' = s
  | s, x :: L, s' => if b = true then ∃ s1, J s x s1 ∧ runP b J s1 L s' else J s x s'
/-- whether the search is to go on -/
def moreB (b : Bool) (L : List (List Ed)) : Bool := b || L.isEmpty
theorem moreB_nil (b : Bool) : moreB b [] = true := by simp [moreB]
theorem moreB_one (b : Bool) (x : List Ed) : moreB b [x] = b := by simp [moreB]
theorem run_one {x : List Ed} (h : J s x s1) : runP b J s [x] s1 := by
  unfold runP; split
  · exact ⟨s1, h, rfl⟩
  · exact h
theorem run_app (h1 : runP true J s L1 s1) (h2 : runP true J s1 L2 s2) : runP true J s (L1 ++ L2) s2 := by
  induction L1 generalizing s with
  | nil => have : s1 = s := h1; subst this; exact h2
  | cons x L ih =>
    rw [runP, if_pos rfl] at h1
    obtain ⟨q, hq, hr⟩ := h1
    rw [List.cons_append, runP, if_pos rfl]; exact ⟨q, hq, ih hr⟩
theorem run_lim {lim : σ → Nat} (hJ : ∀ s x s', J s x s' → lim s' ≤ lim s + 1) (h : runP b J s L1 s1) : lim s1 ≤ lim s + L1.length := by
  induction L1 generalizing s with
  | nil => have : s1 = s := h; subst this; exact Nat.le_refl _
  | cons x L ih =>
    rw [runP] at h
    rw [List.length_cons]
    split at h
    · obtain ⟨q, hq, hr⟩ := h
      have h1 := hJ _ _ _ hq
      have h2 := ih hr
      omega
    · have := hJ _ _ _ h; omega
theorem run_stop (h : moreB b L1 = false) (h1 : runP b J s L1 s1) : runP b J s (L1 ++ L2) s1 ∧ moreB b (L1 ++ L2) = false := by
  unfold moreB at h ⊢
  rcases b with _ | _
  · rcases L1 with _ | ⟨x, L⟩
    · simp at h
    · exact ⟨h1, rfl⟩
  · simp at h
theorem run_on (h : moreB b L1 = true) (h1 : runP b J s L1 s1) (h2 : runP b J s1 L2 s2) : runP b J s (L1 ++ L2) s2 ∧ moreB b L2 = moreB b (L1 ++ L2) := by
  unfold moreB at h ⊢
  rcases b with _ | _
  · rcases L1 with _ | ⟨x, L⟩
    · have : s1 = s := h1
      subst this; exact ⟨h2, rfl⟩
    · simp at h
  · exact ⟨run_app h1 h2, rfl⟩
end
theorem allR_end {es : List Ed} {i : Nat} (h : es.length ≤ i) (ls : List Int) (ch : List Ed) : allR (es.drop i) ls ch = if allZ ls then [ch] else [] := by
  rw [List.drop_eq_nil_of_le h]; rfl
theorem allR_len : ∀ (es : List Ed) (ls : List Int) (ch : List Ed), (allR es ls ch).length ≤ 2 ^ es.length
  | [], ls, ch => by rw [allR]; split <;> simp
  | e :: r, ls, ch => by
    have h1 := allR_len r (decE ls e) (ch ++ [e])
    have h2 := allR_len r ls ch
    rw [allR, List.length_append, List.length_cons, Nat.pow_succ]
    split
    · omega
    · simp only [List.length_nil]; omega
theorem allR_bd {es : List Ed} (h : es.length ≤ 21) (ls : List Int) (ch : List Ed) : (allR es ls ch).length ≤ 4000000 := by
  have h1 := allR_len es ls ch
  have h2 : 2 ^ es.length ≤ 2 ^ 21 := Nat.pow_le_pow_right (by decide) h
  have h3 : 2 ^ 21 = 2097152 := by decide
  omega
theorem allR_yes {es : List Ed} {i : Nat} (h : i < es.length) {ls : List Int} {ch : List Ed} (hm : mayE ls (es.getD i (0, 0))) : allR (es.drop i) ls ch = allR (es.drop (i + 1)) (decE ls (es.getD i (0, 0))) (ch ++ [es.getD i (0, 0)]) ++ allR (es.drop (i + 1)) ls ch := by
  rw [drop_getD (0, 0) h, allR, if_pos hm]
theorem allR_no {es : List Ed} {i : Nat} (h : i < es.length) {ls : List Int} {ch : List Ed} (hm : ¬ mayE ls (es.getD i (0, 0))) : allR (es.drop i) ls ch = allR (es.drop (i + 1)) ls ch := by
  rw [drop_getD (0, 0) h, allR, if_neg hm, List.nil_append]
/-! ### the states of the two searches -/
abbrev AllS := Option Addr × Nat × List Hd × List (List Ed)
def allJ (s : AllS) (x : List Ed) (s' : AllS) : Prop := s'.2.2.2 = s.2.2.2 ++ [x]
def allG (TL TG TE : TypeId) (go m : Nat) (s : AllS) : Ent := bun2 (blk go [.slice s.1 s.2.2.2.length s.2.1] TL) (bun2 (row TG 2 s.1 s.2.2.2.length s.2.1 (cells fG (gsOf m s.2.2.1))) (nest TE 2 fE s.2.2.1 s.2.2.2))
theorem run_all {s s' : AllS} {L : List (List Ed)} (h : runP true allJ s L s') : s'.2.2.2 = s.2.2.2 ++ L := by
  induction L generalizing s with
  | nil => have : s' = s := h; subst this; simp
  | cons x L ih =>
    rw [runP, if_pos rfl] at h
    obtain ⟨q, hq, hr⟩ := h
    have h1 := ih hr
    rw [h1, show q.2.2.2 = s.2.2.2 ++ [x] from hq]; simp
abbrev FacS := Int × Option Addr × Nat × Nat × List Ed × Bool
def facG (TG TB TE : TypeId) (go gf : Nat) (s : FacS) : Ent := bun2 (blk go [.int .i64 s.1, .slice s.2.1 s.2.2.2.2.1.length s.2.2.1] TG) (bun2 (blk gf [.bool s.2.2.2.2.2] TB) (row TE 2 s.2.1 s.2.2.2.2.1.length s.2.2.2.1 (cells fE s.2.2.2.2.1)))
def facJ (m : Nat) (_ : FacS) (x : List Ed) (s' : FacS) : Prop := s'.1 = (m : Int) ∧ s'.2.2.2.2.1 = x ∧ s'.2.2.2.2.2 = true ∧ x.length ≤ s'.2.2.1
/-- the first graph of those degrees, and whether there is one -/
def facOf : List (List Ed) → List Ed × Bool
  | [] => ([], false)
  | x :: _ => (x, true)
theorem facOf_yes {L1 L2 : List (List Ed)} (h : (facOf L1).2 = true) : facOf (L1 ++ L2) = facOf L1 := by
  cases L1 with
  | nil => cases h
  | cons x L => rfl
theorem facOf_no {L1 L2 : List (List Ed)} (h : (facOf L1).2 = false) : facOf (L1 ++ L2) = facOf L2 := by
  cases L1 with
  | nil => rfl
  | cons x L => cases h
def facV (es : List Ed) (ds : List Int) : List Ed × Bool := facOf (allR es ds [])
def facN (m : Nat) (p : List Ed × Bool) : Int := if p.2 = true then (m : Int) else 0
theorem facS_end {m : Nat} {L : List (List Ed)} {s' : FacS} (h : runP false (facJ m) ((0, none, 0, 0, [], false) : FacS) L s') : s'.1 = facN m (facOf L) ∧ s'.2.2.2.2.1 = (facOf L).1 ∧ s'.2.2.2.2.2 = (facOf L).2 ∧ (facOf L).1.length ≤ s'.2.2.1 := by
  cases L with
  | nil => have : s' = _ := h; subst this; exact ⟨rfl, rfl, rfl, Nat.le_refl _⟩
  | cons x L =>
    rw [runP, if_neg (by decide)] at h
    exact ⟨h.1, h.2.1, h.2.2.1, h.2.2.2⟩
/-- all realizations of a list of at most five degrees -/
def allV (xs : List Int) : List (List Ed) := if Valid xs ∧ xs.length ≤ 5 then allR (prs xs.length) xs [] else []
theorem prs_small : ∀ n : Nat, n ≤ 7 → (prs n).length ≤ 21 := by decide
theorem allV_len (xs : List Int) : (allV xs).length ≤ 4000000 := by
  unfold allV
  split
  · rename_i h; exact allR_bd (prs_small _ (by omega)) _ _
  · exact Nat.zero_le _
/-! ### what may be left out -/
theorem total_zero {ls : List Int} (h : ∀ x ∈ ls, 0 ≤ x ∧ x ≤ 1000) : total ls = 0 ↔ allZ ls := by
  induction ls with
  | nil => exact ⟨fun _ x hx => (by cases hx), fun _ => rfl⟩
  | cons a r ih =>
    have h1 := ih fun x hx => h x (List.mem_cons_of_mem _ hx)
    have h2 := h a (by simp)
    have h3 : ∀ l : List Int, (∀ x ∈ l, 0 ≤ x ∧ x ≤ 1000) → 0 ≤ total l := fun l => by
      induction l with
      | nil => intro _; exact Int.le_refl 0
      | cons b t iht => intro hb; have := iht fun x hx => hb x (List.mem_cons_of_mem _ hx); have := hb b (by simp); have e : total (b :: t) = b + total t := total_cons b t; omega
    have h4 := h3 r fun x hx => h x (List.mem_cons_of_mem _ hx)
    have e : total (a :: r) = a + total r := total_cons a r
    constructor
    · intro ht x hx
      rcases List.mem_cons.1 hx with rfl | hx
      · omega
      · exact h1.1 (by omega) x hx
    · intro hz
      have := hz a (by simp)
      have := h1.2 fun x hx => hz x (List.mem_cons_of_mem _ hx)
      omega
theorem allR_dead : ∀ {es : List Ed} {ls : List Int} {ch : List Ed} {v : Nat}, (∀ e ∈ es, OkE ls.length e ∧ ((v : Nat) : Int) ≠ e.1 ∧ ((v : Nat) : Int) ≠ e.2) → v < ls.length → ls.getD v 0 ≠ 0 → allR es ls ch = []
  | [], ls, ch, v, _, hv, h0 => by
    rw [allR, if_neg fun hz => h0 (by have := hz _ (getD_mem (xs := ls) (k := v) 0 hv); omega)]
  | e :: r, ls, ch, v, h, hv, h0 => by
    have he := h e (by simp)
    rw [allR, allR_dead (es := r) (v := v) (fun x hx => h x (List.mem_cons_of_mem _ hx)) hv h0]
    split
    · rw [allR_dead (es := r) (v := v) (fun x hx => by rw [decE_length]; exact h x (List.mem_cons_of_mem _ hx)) (by rw [decE_length]; exact hv) (by rw [decE_get he.1, if_neg (by omega)]; omega)]; rfl
    · rfl
theorem below_drop {es : List Ed} (hs : es.Pairwise below) {i : Nat} (hi : i < es.length) {x : Ed} (hx : x ∈ es.drop (i + 1)) : below (es.getD i (0, 0)) x := by
  have h1 : (es.drop i).Pairwise below := hs.sublist (List.drop_sublist _ _)
  rw [drop_getD (0, 0) hi] at h1
  exact (List.pairwise_cons.1 h1).1 x hx
/-- no edge behind the last one of a vertex touches it -/
theorem allR_prune {m : Nat} {es : List Ed} (hs : es.Pairwise below) (hes : ∀ e ∈ es, OkE m e) {ls : List Int} (hl : ls.length = m) {ch : List Ed} {i : Nat} (hi : i < es.length) (h1 : ¬ (es.getD i (0, 0)).2 + 1 < (m : Int)) (h2 : ls.getD (es.getD i (0, 0)).1.toNat 0 ≠ 0) : allR (es.drop (i + 1)) ls ch = [] := by
  have he := hes _ (getD_mem (xs := es) (k := i) (0, 0) hi)
  obtain ⟨a1, a2, a3⟩ := he
  refine allR_dead (v := (es.getD i (0, 0)).1.toNat) (fun x hx => ?_) (by omega) h2
  have hx1 := hes x (List.mem_of_mem_drop hx)
  have hx2 := below_drop hs hi hx
  obtain ⟨b1, b2, b3⟩ := hx1
  unfold below at hx2
  exact ⟨hl.symm ▸ ⟨b1, b2, b3⟩, by omega, by omega⟩
theorem allR_sub : ∀ {es : List Ed} {ls : List Int} {ch x : List Ed}, x ∈ allR es ls ch → ∃ t, x = ch ++ t ∧ t.Sublist es
  | [], ls, ch, x, h => by
    rw [allR] at h
    split at h
    · simp only [List.mem_singleton] at h; subst h; exact ⟨[], by simp, List.nil_sublist _⟩
    · cases h
  | e :: r, ls, ch, x, h => by
    rw [allR] at h
    rcases List.mem_append.1 h with h | h
    · split at h
      · obtain ⟨t, ht, hs⟩ := allR_sub h
        exact ⟨e :: t, by rw [ht]; simp, hs.cons_cons e⟩
      · cases h
    · obtain ⟨t, ht, hs⟩ := allR_sub h
      exact ⟨t, ht, hs.cons e⟩
theorem allR_gr {m : Nat} {ls : List Int} {x : List Ed} (h : x ∈ allR (prs m) ls []) : Gr m x := by
  obtain ⟨t, ht, hs⟩ := allR_sub h
  rw [List.nil_append] at ht; subst ht; exact gr_of_sublist hs
theorem allV_gr {xs : List Int} {i : Nat} (h : i < (allV xs).length) : Gr xs.length ((allV xs).getD i []) := by
  have h1 := getD_mem (xs := allV xs) (k := i) [] h
  unfold allV at h1 h ⊢
  split at h
  · rename_i hc; rw [if_pos hc] at h1 ⊢; exact allR_gr h1
  · cases h
theorem insert_last {es : List Ed} {k : Nat} (hk : es.length ≤ k) (e : Ed) : es.take k ++ [e] ++ es.drop k = es ++ [e] := by
  rw [List.take_of_length_le hk, List.drop_eq_nil_of_le hk, List.append_nil]
/-- all realizations are one graph under other names -/
def UniP (xs : List Int) : Prop := 0 < (allV xs).length ∧ ∀ i, i < (allV xs).length → (mapI ((allV xs).getD 0 []) ((allV xs).getD i []) xs.length xs.length []).isSome = true
instance (xs : List Int) : Decidable (UniP xs) := by unfold UniP; exact inferInstance
theorem allR_zero : ∀ (es : List Ed) {ls : List Int} {ch : List Ed}, allZ ls → (∀ e ∈ es, OkE ls.length e) → allR es ls ch = [ch]
  | [], ls, ch, h, _ => by rw [allR, if_pos h]
  | e :: r, ls, ch, h, he => by
    have hn : ¬ mayE ls e := fun hm => by
      obtain ⟨h1, h2, h3⟩ := he e (by simp)
      have := hm.1
      have h4 := h _ (getD_mem (xs := ls) (k := e.1.toNat) 0 (by omega)); omega
    rw [allR, if_neg hn, allR_zero r h fun x hx => he x (List.mem_cons_of_mem _ hx)]; rfl
theorem total_some {ls : List Int} (h : 0 < total ls) : ∃ v, v < ls.length ∧ ls.getD v 0 ≠ 0 := by
  induction ls with
  | nil => exact absurd h (by decide)
  | cons a r ih =>
    rw [total_cons] at h
    by_cases ha : a = 0
    · obtain ⟨v, hv, h0⟩ := ih (by omega)
      exact ⟨v + 1, by simpa using hv, by simpa using h0⟩
    · exact ⟨0, by simp, by simpa using ha⟩
/-- a vertex ahead of all edges that are left wants an edge -/
theorem allR_behind {m : Nat} {es : List Ed} (hs : es.Pairwise below) (hes : ∀ e ∈ es, OkE m e) {ls : List Int} (hl : ls.length = m) {ch : List Ed} {i : Nat} (hi : i < es.length) (h : 0 < total (ls.take (es.getD i (0, 0)).1.toNat)) : allR (es.drop i) ls ch = [] := by
  obtain ⟨v, hv, h0⟩ := total_some h
  rw [List.length_take] at hv
  have he := hes _ (getD_mem (xs := es) (k := i) (0, 0) hi)
  obtain ⟨a1, a2, a3⟩ := he
  have h2 : ls.getD v 0 ≠ 0 := by
    have e : (ls.take (es.getD i (0, 0)).1.toNat).getD v 0 = ls.getD v 0 := by
      rw [List.getD_eq_getElem?_getD, List.getElem?_take, if_pos (by omega), ← List.getD_eq_getElem?_getD]
    rwa [e] at h0
  refine allR_dead (v := v) (fun x hx => ?_) (by omega) h2
  have hx1 := hes x (List.mem_of_mem_drop hx)
  rw [drop_getD (0, 0) hi] at hx
  obtain ⟨b1, b2, b3⟩ := hx1
  have hx2 : (es.getD i (0, 0)).1 ≤ x.1 := by
    rcases List.mem_cons.1 hx with rfl | hx
    · exact Int.le_refl _
    · have := below_drop hs hi hx; unfold below at this; omega
  exact ⟨hl.symm ▸ ⟨b1, b2, b3⟩, by omega, by omega⟩
/-- the first realization with a factor (or: beside which the other one goes) -/
def relF (of : List Ed → List Ed) (fs : List Int) (g : List Ed) : Option (List Ed × List Ed) := if (facV (of g) fs).2 = true then some (g, (facV (of g) fs).1) else none
def relV (of : List Ed → List Ed) (xs fs : List Int) : Option (List Ed × List Ed) := if Valid xs ∧ Valid fs ∧ xs.length = fs.length ∧ xs.length ≤ 5 then (allV xs).findSome? (relF of fs) else none
def rel1 (o : Option (List Ed × List Ed)) : List Ed := match o with | none => [] | some p => p.1
def rel2 (o : Option (List Ed × List Ed)) : List Ed := match o with | none => [] | some p => p.2
def relN (m : Nat) (o : Option (List Ed × List Ed)) : Int := match o with | none => 0 | some _ => (m : Int)
theorem found_at {α β : Type} {f : α → Option β} {x : β} (z : α) : ∀ {L : List α} {i : Nat}, i < L.length → f (L.getD i z) = some x → (∀ j, j < i → f (L.getD j z) = none) → L.findSome? f = some x
  | [], _, h, _, _ => absurd h (Nat.not_lt_zero _)
  | a :: L, 0, _, h, _ => by rw [List.findSome?_cons]; simp only [List.getD_cons_zero] at h; rw [h]
  | a :: L, i + 1, hi, h, hn => by
    have h0 := hn 0 (by omega)
    simp only [List.getD_cons_zero] at h0
    rw [List.findSome?_cons, h0]
    exact found_at z (by simpa using hi) (by simpa using h) fun j hj => by simpa using hn (j + 1) (by omega)
theorem found_no {α β : Type} {f : α → Option β} (z : α) {L : List α} (hn : ∀ j, j < L.length → f (L.getD j z) = none) : L.findSome? f = none := by
  rw [List.findSome?_eq_none_iff]
  intro x hx
  obtain ⟨i, hi, rfl⟩ := List.mem_iff_getElem.1 hx
  have := hn i hi
  simpa [hi] using this
theorem facV_sub (es : List Ed) (ds : List Int) : (facV es ds).1.Sublist es := by
  unfold facV
  rcases h : allR es ds [] with _ | ⟨x, L⟩
  · exact List.nil_sublist _
  · obtain ⟨t, ht, hs⟩ := allR_sub (es := es) (ls := ds) (ch := []) (x := x) (by rw [h]; simp)
    rw [List.nil_append] at ht; subst ht; exact hs
theorem Gr.len21 {m : Nat} {es : List Ed} (h : Gr m es) (hm : m ≤ 7) : es.length ≤ 21 := Nat.le_trans h.sublist.length_le (prs_small m hm)
theorem relV_len {of : List Ed → List Ed} {xs ys : List Int} (hof : ∀ g, Gr xs.length g → Gr xs.length (of g)) : (rel1 (relV of xs ys)).length ≤ 21 ∧ (rel2 (relV of xs ys)).length ≤ 21 := by
  rcases hr : relV of xs ys with _ | ⟨g, h⟩
  · exact ⟨Nat.zero_le _, Nat.zero_le _⟩
  · unfold relV at hr
    split at hr
    · rename_i hc
      obtain ⟨g', hg', hr⟩ := List.exists_of_findSome?_eq_some hr
      unfold relF at hr
      split at hr
      · injection hr with hr; injection hr with h1 h2
        subst h1 h2
        have hg : Gr xs.length g' := by
          unfold allV at hg'; rw [if_pos ⟨hc.1, hc.2.2.2⟩] at hg'; exact allR_gr hg'
        exact ⟨hg.len21 (by omega), Nat.le_trans (facV_sub _ _).length_le ((hof _ hg).len21 (by omega))⟩
      · cases hr
    · cases hr
theorem filt_t {α : Type} {L : List α} {p : α → Bool} {k : Nat} {z : α} (h : k < L.length) (hp : p (L.getD k z) = true) : (L.take (k + 1)).filter p = (L.take k).filter p ++ [L.getD k z] := by
  rw [take_succ z h, List.filter_append, List.filter_cons, if_pos hp]; rfl
theorem filt_f {α : Type} {L : List α} {p : α → Bool} {k : Nat} {z : α} (h : k < L.length) (hp : p (L.getD k z) = false) : (L.take (k + 1)).filter p = (L.take k).filter p := by
  rw [take_succ z h, List.filter_append, List.filter_cons, if_neg (by rw [hp]; decide)]; exact List.append_nil _
end Go.Plain
