/- Graphs: pairs, sorted lists of edges, components. No program in sight. Conditions: those of each theorem. -/
import Derived.Test.YtkkllkkjdbpjpaaPl
namespace Go.Plain
abbrev Ed := Int × Int
/-! ### pairs -/
def prow (a k : Nat) : List Ed := (List.range k).map fun i => ((a : Int), ((a + 1 + i : Nat) : Int))
def prsTo (n a : Nat) : List Ed := (List.range a).flatMap fun a => prow a (n - (a + 1))
def prs (n : Nat) : List Ed := prsTo n n
theorem prow_succ (a k : Nat) : prow a (k + 1) = prow a k ++ [((a : Int), ((a + 1 + k : Nat) : Int))] := by simp [prow, List.range_succ]
theorem prow_length (a k : Nat) : (prow a k).length = k := by simp [prow]
theorem prsTo_succ (n a : Nat) : prsTo n (a + 1) = prsTo n a ++ prow a (n - (a + 1)) := by simp [prsTo, List.range_succ]
theorem prsTo_len (n : Nat) (h : n ≤ 10) : ∀ a, a ≤ n → (prsTo n a).length ≤ 10 * a
  | 0, _ => by simp [prsTo]
  | a + 1, ha => by
    have := prsTo_len n h a (by omega)
    rw [prsTo_succ, List.length_append, prow_length]; omega
theorem prs_len {n : Nat} (h : n ≤ 10) : (prs n).length ≤ 100 := by have := prsTo_len n h n (Nat.le_refl _); unfold prs; omega
theorem mem_prow {a k : Nat} {e : Ed} : e ∈ prow a k ↔ e.1 = (a : Int) ∧ (a : Int) < e.2 ∧ e.2 ≤ ((a + k : Nat) : Int) := by
  obtain ⟨x, y⟩ := e
  simp only [prow, List.mem_map, List.mem_range, Prod.mk.injEq]
  constructor
  · rintro ⟨i, h, rfl, rfl⟩; omega
  · rintro ⟨rfl, h1, h2⟩; exact ⟨(y - a - 1).toNat, by omega, rfl, by omega⟩
theorem mem_prsTo {n a : Nat} (ha : a ≤ n) {e : Ed} : e ∈ prsTo n a ↔ 0 ≤ e.1 ∧ e.1 < (a : Int) ∧ e.1 < e.2 ∧ e.2 < (n : Int) := by
  simp only [prsTo, List.mem_flatMap, List.mem_range]
  constructor
  · rintro ⟨b, hb, he⟩; have := mem_prow.1 he; omega
  · rintro ⟨h1, h2, h3, h4⟩; exact ⟨e.1.toNat, by omega, mem_prow.2 (by omega)⟩
theorem mem_prs {n : Nat} {e : Ed} : e ∈ prs n ↔ 0 ≤ e.1 ∧ e.1 < e.2 ∧ e.2 < (n : Int) := by
  unfold prs; rw [mem_prsTo (Nat.le_refl _)]; omega
theorem below_trans {a b c : Ed} (h1 : below a b) (h2 : below b c) : below a c := by unfold below at *; omega
theorem below_irrefl (a : Ed) : ¬ below a a := by unfold below; omega
theorem below_tri {a b : Ed} (h : a ≠ b) : below a b ∨ below b a := by
  obtain ⟨a1, a2⟩ := a; obtain ⟨b1, b2⟩ := b
  unfold below
  by_cases e : a1 = b1
  · have : a2 ≠ b2 := fun e2 => h (by rw [e, e2])
    omega
  · dsimp only; omega
theorem prow_sorted (a : Nat) : ∀ k, (prow a k).Pairwise below
  | 0 => .nil
  | k + 1 => by
    rw [prow_succ, List.pairwise_append]
    refine ⟨prow_sorted a k, List.pairwise_singleton _ _, fun x hx y hy => ?_⟩
    simp only [List.mem_singleton] at hy; subst hy
    have := mem_prow.1 hx; unfold below; omega
theorem prsTo_sorted {n : Nat} : ∀ {a : Nat}, a ≤ n → (prsTo n a).Pairwise below
  | 0, _ => .nil
  | a + 1, h => by
    rw [prsTo_succ, List.pairwise_append]
    refine ⟨prsTo_sorted (by omega), prow_sorted _ _, fun x hx y hy => ?_⟩
    have h1 := (mem_prsTo (by omega)).1 hx
    have h2 := mem_prow.1 hy; unfold below; omega
theorem prs_sorted (n : Nat) : (prs n).Pairwise below := prsTo_sorted (Nat.le_refl _)
/-- two strictly sorted lists of the same elements are one -/
theorem sorted_ext : ∀ {a b : List Ed}, a.Pairwise below → b.Pairwise below → (∀ x, x ∈ a ↔ x ∈ b) → a = b
  | [], [], _, _, _ => rfl
  | [], y :: b, _, _, h => by have := (h y).2 (by simp); cases this
  | x :: a, [], _, _, h => by have := (h x).1 (by simp); cases this
  | x :: a, y :: b, ha, hb, h => by
    rw [List.pairwise_cons] at ha hb
    have e : x = y := by
      by_cases hxy : x = y
      · exact hxy
      · have h1 : x ∈ b := ((List.mem_cons.1 ((h x).1 (by simp))).resolve_left hxy)
        have h2 : y ∈ a := ((List.mem_cons.1 ((h y).2 (by simp))).resolve_left (Ne.symm hxy))
        exact absurd (below_trans (ha.1 y h2) (hb.1 x h1)) (below_irrefl _)
    subst e
    have := sorted_ext ha.2 hb.2 (fun z => by
      constructor
      · intro hz
        have hne : z ≠ x := fun e => by subst e; exact below_irrefl _ (ha.1 z hz)
        exact (List.mem_cons.1 ((h z).1 (List.mem_cons_of_mem _ hz))).resolve_left hne
      · intro hz
        have hne : z ≠ x := fun e => by subst e; exact below_irrefl _ (hb.1 z hz)
        exact (List.mem_cons.1 ((h z).2 (List.mem_cons_of_mem _ hz))).resolve_left hne)
    rw [this]
/-! ### valid graphs -/
/-- the edges of a valid graph of n vertices -/
structure Gr (n : Nat) (es : List Ed) : Prop where
  sorted : es.Pairwise below
  inr : ∀ e ∈ es, 0 ≤ e.1 ∧ e.1 < e.2 ∧ e.2 < (n : Int)
theorem getD_lt {es : List Ed} {i : Nat} (h : i < es.length) : es.getD i (0, 0) = es[i] := by simp [h]
theorem sorted_of_steps {es : List Ed} (h : ∀ i, i < es.length → 0 < i → below (es.getD (i - 1) (0, 0)) (es.getD i (0, 0))) : es.Pairwise below := by
  rw [List.pairwise_iff_getElem]
  intro i j hi hj hij
  induction j with
  | zero => omega
  | succ j ih =>
    have h1 := h (j + 1) hj (by omega)
    rw [Nat.add_sub_cancel, getD_lt (by omega), getD_lt hj] at h1
    by_cases e : i = j
    · subst e; exact h1
    · exact below_trans (ih (by omega) (by omega)) h1
theorem ValidG.gr {N : Int} {es : List Ed} (h : ValidG N es) : Gr N.toNat es := by
  obtain ⟨h1, h2, h3⟩ := h
  refine ⟨sorted_of_steps fun i hi h0 => (h1 i hi).2.2.2 h0, fun e he => ?_⟩
  obtain ⟨i, hi, rfl⟩ := List.mem_iff_getElem.1 he
  have := h1 i hi
  unfold okE at this
  rw [getD_lt hi] at this
  omega
theorem Gr.valid {n : Nat} {es : List Ed} (h : Gr n es) (hn : n ≤ 7) : ValidG (n : Int) es := by
  refine ⟨fun i hi => ?_, by omega, by omega⟩
  have h1 := h.inr _ (getD_mem (0, 0) hi)
  refine ⟨h1.1, h1.2.1, h1.2.2, fun h0 => ?_⟩
  rw [getD_lt (by omega), getD_lt hi]
  exact List.pairwise_iff_getElem.1 h.sorted _ _ (by omega) hi (by omega)
theorem valid_iff {N : Int} {es : List Ed} : ValidG N es ↔ 0 ≤ N ∧ N ≤ 7 ∧ Gr N.toNat es := by
  constructor
  · intro h; exact ⟨h.2.1, h.2.2, h.gr⟩
  · rintro ⟨h1, h2, h3⟩
    have := h3.valid (by omega)
    rwa [Int.toNat_of_nonneg h1] at this
theorem Gr.eq_filter {n : Nat} {es : List Ed} (h : Gr n es) : es = (prs n).filter (· ∈ es) :=
  sorted_ext h.sorted ((prs_sorted n).filter _) fun x => by
    rw [List.mem_filter, decide_eq_true_eq]
    exact ⟨fun hx => ⟨mem_prs.2 (h.inr x hx), hx⟩, fun hx => hx.2⟩
theorem Gr.sublist {n : Nat} {es : List Ed} (h : Gr n es) : es.Sublist (prs n) := by rw [h.eq_filter]; exact List.filter_sublist
theorem Gr.len {n : Nat} {es : List Ed} (h : Gr n es) (hn : n ≤ 10) : es.length ≤ 100 := Nat.le_trans h.sublist.length_le (prs_len hn)
theorem gr_of_sublist {n : Nat} {es : List Ed} (h : es.Sublist (prs n)) : Gr n es := ⟨(prs_sorted n).sublist h, fun e he => mem_prs.1 (h.subset he)⟩
theorem gr_filter {n : Nat} (p : Ed → Bool) : Gr n ((prs n).filter p) := gr_of_sublist List.filter_sublist
theorem Gr.filter {n : Nat} {es : List Ed} (h : Gr n es) (p : Ed → Bool) : Gr n (es.filter p) := ⟨h.sorted.filter p, fun e he => h.inr e (List.mem_filter.1 he).1⟩
theorem Gr.nodup {n : Nat} {es : List Ed} (h : Gr n es) : es.Nodup := h.sorted.imp fun {a b} hab (e' : a = b) => by subst e'; exact below_irrefl _ hab
theorem gr_nil (n : Nat) : Gr n [] := ⟨.nil, fun _ h => by cases h⟩
theorem gr_ext {n m : Nat} {es fs : List Ed} (h1 : Gr n es) (h2 : Gr m fs) (h : ∀ x, x ∈ es ↔ x ∈ fs) : es = fs := sorted_ext h1.sorted h2.sorted h
/-- an edge, in whatever order -/
def edg (a b : Int) : Ed := (min a b, max a b)
/-! ### components -/
/-- the vertices i and j are connected -/
inductive Cn (es : List Ed) : Int → Int → Prop where
  | refl (i : Int) : Cn es i i
  | fwd {i : Int} {e : Ed} : e ∈ es → Cn es i e.1 → Cn es i e.2
  | bwd {i : Int} {e : Ed} : e ∈ es → Cn es i e.2 → Cn es i e.1
theorem Cn.trans {es : List Ed} {i j k : Int} (h1 : Cn es i j) (h2 : Cn es j k) : Cn es i k := by
  induction h2 with
  | refl => exact h1
  | fwd he _ ih => exact .fwd he ih
  | bwd he _ ih => exact .bwd he ih
theorem Cn.symm {es : List Ed} {i j : Int} (h : Cn es i j) : Cn es j i := by
  induction h with
  | refl => exact .refl _
  | fwd he _ ih => exact (Cn.bwd he (.refl _)).trans ih
  | bwd he _ ih => exact (Cn.fwd he (.refl _)).trans ih
theorem Cn.range {n : Nat} {es : List Ed} (h : Gr n es) {i j : Int} (hc : Cn es i j) (hi : 0 ≤ i ∧ i < n) : 0 ≤ j ∧ j < n := by
  induction hc with
  | refl => exact hi
  | fwd he _ ih => have := h.inr _ he; omega
  | bwd he _ ih => have := h.inr _ he; omega
/-- one edge spreads -/
def sprd (b : List Bool) (e : Ed) : List Bool := if b.getD e.1.toNat false || b.getD e.2.toNat false then (b.set e.1.toNat true).set e.2.toNat true else b
def sprdTo (es : List Ed) (b : List Bool) (q : Nat) : List Bool := (es.take q).foldl sprd b
theorem sprd_length (b : List Bool) (e : Ed) : (sprd b e).length = b.length := by unfold sprd; split <;> simp
theorem foldl_sprd_length : ∀ (es : List Ed) (b : List Bool), (es.foldl sprd b).length = b.length
  | [], _ => rfl
  | e :: r, b => by rw [List.foldl_cons, foldl_sprd_length r, sprd_length]
theorem sprdTo_length (es : List Ed) (b : List Bool) (q : Nat) : (sprdTo es b q).length = b.length := foldl_sprd_length _ _
theorem sprdTo_succ {es : List Ed} {b : List Bool} {q : Nat} (h : q < es.length) : sprdTo es b (q + 1) = sprd (sprdTo es b q) (es.getD q (0, 0)) := by
  unfold sprdTo; rw [take_succ (0, 0) h, List.foldl_append]; rfl
/-- after so many rounds -/
def sprdN (es : List Ed) (b : List Bool) : Nat → List Bool
  | 0 => b
  | k + 1 => sprdTo es (sprdN es b k) es.length
theorem sprdN_length (es : List Ed) (b : List Bool) : ∀ k, (sprdN es b k).length = b.length
  | 0 => rfl
  | k + 1 => by rw [sprdN, sprdTo_length, sprdN_length es b k]
def oneAt (n v : Nat) : List Bool := (List.replicate n false).set v true
def inOf (n : Nat) (es : List Ed) (v : Nat) : List Bool := sprdN es (oneAt n v) n
/-- the indices that are true, ascending -/
def trues (b : List Bool) (k : Nat) : List Int := ((List.range k).filter fun i => b.getD i false).map Int.ofNat
theorem trues_succ_t {b : List Bool} {k : Nat} (h : b.getD k false = true) : trues b (k + 1) = trues b k ++ [(k : Int)] := by
  simp only [trues, List.range_succ, List.filter_append, List.map_append]
  rw [List.filter_cons, if_pos h]; rfl
theorem trues_succ_f {b : List Bool} {k : Nat} (h : b.getD k false = false) : trues b (k + 1) = trues b k := by
  simp only [trues, List.range_succ, List.filter_append, List.map_append]
  rw [List.filter_cons, if_neg (by rw [h]; decide)]; simp
theorem trues_len (b : List Bool) (k : Nat) : (trues b k).length ≤ k := by
  unfold trues; rw [List.length_map]; exact Nat.le_trans (List.length_filter_le _ _) (by simp)
theorem mem_trues {b : List Bool} {k : Nat} {x : Int} : x ∈ trues b k ↔ 0 ≤ x ∧ x < k ∧ b.getD x.toNat false = true := by
  simp only [trues, List.mem_map, List.mem_filter, List.mem_range]
  constructor
  · rintro ⟨i, ⟨h1, h2⟩, rfl⟩; exact ⟨by simp, by simpa using h1, by simpa using h2⟩
  · rintro ⟨h1, h2, h3⟩; exact ⟨x.toNat, ⟨by omega, h3⟩, by simp; omega⟩
theorem getD_setB {b : List Bool} {i j : Nat} {v : Bool} (hi : i < b.length) : (b.set i v).getD j false = if i = j then v else b.getD j false := by
  simp only [List.getD_eq_getElem?_getD, List.getElem?_set]
  split
  · rename_i h; subst h; simp [hi]
  · rfl
theorem sprd_get {n : Nat} {b : List Bool} {e : Ed} (hb : b.length = n) (he : 0 ≤ e.1 ∧ e.1 < e.2 ∧ e.2 < (n : Int)) (j : Nat) :
    (sprd b e).getD j false = (b.getD j false || ((b.getD e.1.toNat false || b.getD e.2.toNat false) && (decide (j = e.1.toNat) || decide (j = e.2.toNat)))) := by
  unfold sprd
  split
  · rename_i h
    rw [getD_setB (by simp; omega), getD_setB (by omega), h]
    by_cases h1 : e.2.toNat = j
    · subst h1; simp
    · rw [if_neg h1]
      by_cases h2 : e.1.toNat = j
      · subst h2; simp
      · rw [if_neg h2]
        have e1 : decide (j = e.1.toNat) = false := by simp; omega
        have e2 : decide (j = e.2.toNat) = false := by simp; omega
        rw [e1, e2]; simp
  · rename_i h
    have h' : (b.getD e.1.toNat false || b.getD e.2.toNat false) = false := by simpa using h
    rw [h']; simp
/-- what spreads is connected -/
theorem sprd_sound {n : Nat} {es : List Ed} {v : Int} : ∀ {l : List Ed}, (∀ e ∈ l, e ∈ es ∧ 0 ≤ e.1 ∧ e.1 < e.2 ∧ e.2 < (n : Int)) → ∀ {b : List Bool}, b.length = n → (∀ j : Nat, b.getD j false = true → Cn es v (j : Int)) → ∀ j : Nat, (l.foldl sprd b).getD j false = true → Cn es v (j : Int)
  | [], _, _, _, h => h
  | e :: r, hl, b, hb, h => by
    rw [List.foldl_cons]
    have he := hl e (by simp)
    refine sprd_sound (fun x hx => hl x (List.mem_cons_of_mem _ hx)) (by rw [sprd_length]; exact hb) fun j hj => ?_
    rw [sprd_get hb he.2] at hj
    by_cases h1 : b.getD j false = true
    · exact h j h1
    · have h1' : b.getD j false = false := by simpa using h1
      rw [h1', Bool.false_or, Bool.and_eq_true, Bool.or_eq_true, Bool.or_eq_true, decide_eq_true_eq, decide_eq_true_eq] at hj
      have c1 : Cn es v e.1 ∨ Cn es v e.2 := by
        rcases hj.1 with h2 | h2
        · have := h _ h2; rw [Int.toNat_of_nonneg he.2.1] at this; exact .inl this
        · have := h _ h2; rw [Int.toNat_of_nonneg (by omega)] at this; exact .inr this
      rcases hj.2 with rfl | rfl
      · rw [Int.toNat_of_nonneg he.2.1]; rcases c1 with c | c
        · exact c
        · exact .bwd he.1 c
      · rw [Int.toNat_of_nonneg (by omega)]; rcases c1 with c | c
        · exact .fwd he.1 c
        · exact c
theorem sprd_mono {n : Nat} : ∀ {l : List Ed}, (∀ e ∈ l, 0 ≤ e.1 ∧ e.1 < e.2 ∧ e.2 < (n : Int)) → ∀ {b : List Bool}, b.length = n → ∀ j : Nat, b.getD j false = true → (l.foldl sprd b).getD j false = true
  | [], _, _, _, _, h => h
  | e :: r, hl, b, hb, j, h => by
    rw [List.foldl_cons]
    refine sprd_mono (fun x hx => hl x (List.mem_cons_of_mem _ hx)) (by rw [sprd_length]; exact hb) j ?_
    rw [sprd_get hb (hl e (by simp)), h]; rfl
/-- behind a round both ends of an edge that was touched are true -/
theorem sprd_edge {n : Nat} : ∀ {l : List Ed}, (∀ e ∈ l, 0 ≤ e.1 ∧ e.1 < e.2 ∧ e.2 < (n : Int)) → ∀ {b : List Bool}, b.length = n → ∀ e ∈ l, (b.getD e.1.toNat false || b.getD e.2.toNat false) = true → (l.foldl sprd b).getD e.1.toNat false = true ∧ (l.foldl sprd b).getD e.2.toNat false = true
  | x :: r, hl, b, hb, e, he, ht => by
    rw [List.foldl_cons]
    have hr := fun y hy => hl y (List.mem_cons_of_mem _ hy)
    have hb' : (sprd b x).length = n := by rw [sprd_length]; exact hb
    rcases List.mem_cons.1 he with rfl | he
    · have hx := hl e (by simp)
      exact ⟨sprd_mono hr hb' _ (by rw [sprd_get hb hx, ht]; simp), sprd_mono hr hb' _ (by rw [sprd_get hb hx, ht]; simp)⟩
    · refine sprd_edge hr hb' e he ?_
      have hx := hl x (by simp)
      rw [Bool.or_eq_true] at ht ⊢
      rcases ht with h | h
      · left; rw [sprd_get hb hx, h]; rfl
      · right; rw [sprd_get hb hx, h]; rfl
def cnt (b : List Bool) : Nat := b.countP (fun x => x)
theorem cnt_le (b : List Bool) : cnt b ≤ b.length := List.countP_le_length
theorem cnt_mono : ∀ {a b : List Bool}, a.length = b.length → (∀ j : Nat, a.getD j false = true → b.getD j false = true) → cnt a ≤ cnt b ∧ (cnt a = cnt b → a = b)
  | [], [], _, _ => ⟨Nat.le_refl _, fun _ => rfl⟩
  | x :: a, y :: b, hl, h => by
    have ih := cnt_mono (a := a) (b := b) (by simpa using hl) (fun j hj => by simpa using h (j + 1) (by simpa using hj))
    have h0 : x = true → y = true := fun hx => by simpa using h 0 (by simpa using hx)
    unfold cnt at *
    rw [List.countP_cons, List.countP_cons]
    cases x <;> cases y
    · simp only [Bool.false_eq_true, if_false, Nat.add_zero]; exact ⟨ih.1, fun e => by rw [ih.2 e]⟩
    · simp only [Bool.false_eq_true, if_false, if_true, Nat.add_zero]; exact ⟨by omega, fun e => by omega⟩
    · exact absurd (h0 rfl) (by decide)
    · simp only [if_true]; exact ⟨by omega, fun e => by rw [ih.2 (by omega)]⟩
theorem sprdN_fix {n : Nat} {es : List Ed} (hg : Gr n es) {b : List Bool} (hb : b.length = n) (h1 : 1 ≤ cnt b) : sprdN es b (n + 1) = sprdN es b n := by
  have step : ∀ k, cnt (sprdN es b k) ≤ cnt (sprdN es b (k + 1)) ∧ (cnt (sprdN es b k) = cnt (sprdN es b (k + 1)) → sprdN es b k = sprdN es b (k + 1)) := fun k =>
    cnt_mono (by rw [sprdN_length, sprdN_length]) fun j hj => by
      rw [sprdN]; unfold sprdTo; rw [List.take_length]
      exact sprd_mono hg.inr (by rw [sprdN_length]; exact hb) j hj
  have key : ∀ k, k + 1 ≤ cnt (sprdN es b k) ∨ sprdN es b (k + 1) = sprdN es b k := by
    intro k
    induction k with
    | zero => left; exact h1
    | succ k ih =>
      rcases ih with h | h
      · by_cases e : cnt (sprdN es b k) = cnt (sprdN es b (k + 1))
        · right
          have h2 := (step k).2 e
          show sprdTo es (sprdN es b (k + 1)) es.length = sprdN es b (k + 1)
          rw [← h2]; exact h2.symm
        · left; have := (step k).1; omega
      · right
        show sprdTo es (sprdN es b (k + 1)) es.length = sprdN es b (k + 1)
        rw [h]; exact h
  rcases key n with h | h
  · have := cnt_le (sprdN es b n); rw [sprdN_length, hb] at this; omega
  · exact h
theorem sprdN_mono {n : Nat} {es : List Ed} (hg : Gr n es) {b : List Bool} (hb : b.length = n) : ∀ k (j : Nat), b.getD j false = true → (sprdN es b k).getD j false = true
  | 0, _, h => h
  | k + 1, j, h => by
    rw [sprdN]; unfold sprdTo; rw [List.take_length]
    exact sprd_mono hg.inr (by rw [sprdN_length]; exact hb) j (sprdN_mono hg hb k j h)
theorem oneAt_get {n v : Nat} (hv : v < n) (j : Nat) : (oneAt n v).getD j false = decide (j = v) := by
  unfold oneAt
  rw [getD_setB (by simpa using hv)]
  by_cases h : v = j
  · subst h; simp
  · rw [if_neg h]
    have : decide (j = v) = false := by simp; omega
    rw [this]
    by_cases hj : j < n <;> simp [List.getD_eq_getElem?_getD, hj]
theorem cnt_pos {b : List Bool} {j : Nat} (h : b.getD j false = true) : 1 ≤ cnt b := by
  unfold cnt
  have hj : j < b.length := by
    by_cases hj : j < b.length
    · exact hj
    · rw [List.getD_eq_getElem?_getD, List.getElem?_eq_none (by omega)] at h; simp at h
  exact List.countP_pos_iff.2 ⟨b[j], List.getElem_mem hj, by simpa [hj] using h⟩
/-- what is reached is what is connected -/
theorem inOf_iff {n : Nat} {es : List Ed} (hg : Gr n es) {v : Nat} (hv : v < n) (j : Nat) (hj : j < n) : (inOf n es v).getD j false = true ↔ Cn es (v : Int) (j : Int) := by
  have hb : (oneAt n v).length = n := by simp [oneAt]
  constructor
  · have key : ∀ k (j : Nat), (sprdN es (oneAt n v) k).getD j false = true → Cn es (v : Int) (j : Int) := by
      intro k
      induction k with
      | zero => intro j h; rw [sprdN, oneAt_get hv, decide_eq_true_eq] at h; subst h; exact .refl _
      | succ k ih =>
        intro j h
        rw [sprdN] at h; unfold sprdTo at h; rw [List.take_length] at h
        exact sprd_sound (n := n) (fun e he => ⟨he, hg.inr e he⟩) (by rw [sprdN_length]; exact hb) ih j h
    exact key n j
  · intro hc
    have hfix : sprdTo es (inOf n es v) es.length = inOf n es v := sprdN_fix hg hb (cnt_pos (j := v) (by rw [oneAt_get hv]; simp))
    have hlen : (inOf n es v).length = n := by unfold inOf; rw [sprdN_length]; exact hb
    have hclosed : ∀ e ∈ es, ((inOf n es v).getD e.1.toNat false || (inOf n es v).getD e.2.toNat false) = true → (inOf n es v).getD e.1.toNat false = true ∧ (inOf n es v).getD e.2.toNat false = true := fun e he ht => by
      have h := sprd_edge hg.inr hlen e he ht
      unfold sprdTo at hfix; rw [List.take_length] at hfix
      rwa [hfix] at h
    have key : ∀ z : Int, Cn es (v : Int) z → (inOf n es v).getD z.toNat false = true := by
      intro z hz
      induction hz with
      | refl => rw [Int.toNat_natCast]; exact sprdN_mono hg hb n v (by rw [oneAt_get hv]; simp)
      | fwd he _ ih => exact (hclosed _ he (by rw [ih]; rfl)).2
      | bwd he _ ih => exact (hclosed _ he (by rw [ih]; simp)).1
    have := key _ hc
    rwa [Int.toNat_natCast] at this
def compOf (n : Nat) (es : List Ed) (v : Nat) : List Int := trues (inOf n es v) n
/-! the program's way: labels -/
def lab (r : List Int) (e : Ed) : List Int := (r.set e.1.toNat (min (r.getD e.1.toNat 0) (r.getD e.2.toNat 0))).set e.2.toNat (min (r.getD e.1.toNat 0) (r.getD e.2.toNat 0))
def labTo (es : List Ed) (r : List Int) (q : Nat) : List Int := (es.take q).foldl lab r
theorem lab_length (r : List Int) (e : Ed) : (lab r e).length = r.length := by simp [lab]
theorem foldl_lab_length : ∀ (es : List Ed) (r : List Int), (es.foldl lab r).length = r.length
  | [], _ => rfl
  | e :: l, r => by rw [List.foldl_cons, foldl_lab_length l, lab_length]
theorem labTo_length (es : List Ed) (r : List Int) (q : Nat) : (labTo es r q).length = r.length := foldl_lab_length _ _
theorem labTo_succ {es : List Ed} {r : List Int} {q : Nat} (h : q < es.length) : labTo es r (q + 1) = lab (labTo es r q) (es.getD q (0, 0)) := by
  unfold labTo; rw [take_succ (0, 0) h, List.foldl_append]; rfl
def labN (es : List Ed) (r : List Int) : Nat → List Int
  | 0 => r
  | k + 1 => labTo es (labN es r k) es.length
theorem labN_length (es : List Ed) (r : List Int) : ∀ k, (labN es r k).length = r.length
  | 0 => rfl
  | k + 1 => by rw [labN, labTo_length, labN_length es r k]
def ids (n : Nat) : List Int := (List.range n).map Int.ofNat
theorem idx_ids (n : Nat) : idx n (-1) = ids n := by
  unfold idx ids
  rw [List.filter_eq_self]
  intro x hx
  obtain ⟨i, _, rfl⟩ := List.mem_map.1 hx
  simp
theorem ids_length (n : Nat) : (ids n).length = n := by simp [ids]
theorem ids_get {n i : Nat} (h : i < n) : (ids n).getD i 0 = (i : Int) := by simp [ids, List.getD_eq_getElem?_getD, h]
def rootsOf (n : Nat) (es : List Ed) : List Int := labN es (ids n) n
theorem rootsOf_length (n : Nat) (es : List Ed) : (rootsOf n es).length = n := by unfold rootsOf; rw [labN_length, ids_length]
theorem getD_setI {xs : List Int} {i j : Nat} {v : Int} (hi : i < xs.length) : (xs.set i v).getD j 0 = if i = j then v else xs.getD j 0 := by
  simp only [List.getD_eq_getElem?_getD, List.getElem?_set]
  split
  · rename_i h; subst h; simp [hi]
  · rfl
theorem lab_get {n : Nat} {r : List Int} {e : Ed} (hr : r.length = n) (he : 0 ≤ e.1 ∧ e.1 < e.2 ∧ e.2 < (n : Int)) (j : Nat) :
    (lab r e).getD j 0 = if j = e.1.toNat ∨ j = e.2.toNat then min (r.getD e.1.toNat 0) (r.getD e.2.toNat 0) else r.getD j 0 := by
  unfold lab
  rw [getD_setI (by simp; omega), getD_setI (by omega)]
  by_cases h1 : e.2.toNat = j
  · rw [if_pos h1, if_pos (.inr h1.symm)]
  · rw [if_neg h1]
    by_cases h2 : e.1.toNat = j
    · rw [if_pos h2, if_pos (.inl h2.symm)]
    · rw [if_neg h2, if_neg (by omega)]
/-- a label is a connected vertex -/
theorem lab_sound {n : Nat} {es : List Ed} : ∀ {l : List Ed}, (∀ e ∈ l, e ∈ es ∧ 0 ≤ e.1 ∧ e.1 < e.2 ∧ e.2 < (n : Int)) → ∀ {r : List Int}, r.length = n → (∀ j : Nat, j < n → Cn es (j : Int) (r.getD j 0)) → ∀ j : Nat, j < n → Cn es (j : Int) ((l.foldl lab r).getD j 0)
  | [], _, _, _, h => h
  | e :: l, hl, r, hr, h => by
    rw [List.foldl_cons]
    have he := hl e (by simp)
    refine lab_sound (fun x hx => hl x (List.mem_cons_of_mem _ hx)) (by rw [lab_length]; exact hr) fun j hj => ?_
    rw [lab_get hr he.2]
    split
    · rename_i hje
      have a1 := h e.1.toNat (by omega); have a2 := h e.2.toNat (by omega)
      rw [Int.toNat_of_nonneg he.2.1] at a1
      rw [Int.toNat_of_nonneg (by omega)] at a2
      have c12 : Cn es e.1 e.2 := .fwd he.1 (.refl _)
      have d1 : Cn es e.1 (min (r.getD e.1.toNat 0) (r.getD e.2.toNat 0)) := by
        rcases Int.le_total (r.getD e.1.toNat 0) (r.getD e.2.toNat 0) with hm | hm
        · rw [Int.min_eq_left hm]; exact a1
        · rw [Int.min_eq_right hm]; exact c12.trans a2
      rcases hje with rfl | rfl
      · rw [Int.toNat_of_nonneg he.2.1]; exact d1
      · rw [Int.toNat_of_nonneg (by omega)]; exact c12.symm.trans d1
    · exact h j hj
/-- where it has spread the labels are no greater -/
theorem lab_sim {n : Nat} {v : Int} : ∀ {l : List Ed}, (∀ e ∈ l, 0 ≤ e.1 ∧ e.1 < e.2 ∧ e.2 < (n : Int)) → ∀ {b : List Bool} {r : List Int}, b.length = n → r.length = n → (∀ j : Nat, b.getD j false = true → r.getD j 0 ≤ v) → ∀ j : Nat, (l.foldl sprd b).getD j false = true → (l.foldl lab r).getD j 0 ≤ v
  | [], _, _, _, _, _, h => h
  | e :: l, hl, b, r, hb, hr, h => by
    rw [List.foldl_cons, List.foldl_cons]
    have he := hl e (by simp)
    refine lab_sim (fun x hx => hl x (List.mem_cons_of_mem _ hx)) (by rw [sprd_length]; exact hb) (by rw [lab_length]; exact hr) fun j hj => ?_
    rw [sprd_get hb he] at hj
    rw [lab_get hr he]
    split
    · rename_i hje
      have : b.getD e.1.toNat false = true ∨ b.getD e.2.toNat false = true := by
        rw [Bool.or_eq_true, Bool.and_eq_true, Bool.or_eq_true] at hj
        rcases hj with h1 | h1
        · rcases hje with rfl | rfl
          · exact .inl h1
          · exact .inr h1
        · exact h1.1
      rcases this with h1 | h1
      · have := h _ h1; omega
      · have := h _ h1; omega
    · rename_i hje
      have e1 : decide (j = e.1.toNat) = false := by simp; omega
      have e2 : decide (j = e.2.toNat) = false := by simp; omega
      rw [e1, e2] at hj
      exact h j (by simpa using hj)
theorem roots_conn {n : Nat} {es : List Ed} (hg : Gr n es) {j : Nat} (hj : j < n) : Cn es (j : Int) ((rootsOf n es).getD j 0) := by
  have key : ∀ k (j : Nat), j < n → Cn es (j : Int) ((labN es (ids n) k).getD j 0) := by
    intro k
    induction k with
    | zero => intro j hj; rw [labN, ids_get hj]; exact .refl _
    | succ k ih =>
      intro j hj
      rw [labN]; unfold labTo; rw [List.take_length]
      exact lab_sound (n := n) (fun e he => ⟨he, hg.inr e he⟩) (by rw [labN_length, ids_length]) ih j hj
  exact key n j hj
theorem roots_le {n : Nat} {es : List Ed} (hg : Gr n es) {j v : Nat} (hj : j < n) (hv : v < n) (hc : Cn es (v : Int) (j : Int)) : (rootsOf n es).getD j 0 ≤ (v : Int) := by
  have key : ∀ k (j : Nat), (sprdN es (oneAt n v) k).getD j false = true → (labN es (ids n) k).getD j 0 ≤ (v : Int) := by
    intro k
    induction k with
    | zero => intro j h; rw [sprdN, oneAt_get hv, decide_eq_true_eq] at h; subst h; rw [labN, ids_get hv]; omega
    | succ k ih =>
      intro j h
      rw [sprdN] at h; rw [labN]; unfold sprdTo at h; unfold labTo
      rw [List.take_length] at h ⊢
      exact lab_sim (n := n) hg.inr (by rw [sprdN_length]; simp [oneAt]) (by rw [labN_length, ids_length]) ih j h
  exact key n j ((inOf_iff hg hv j hj).2 hc)
theorem roots_range {n : Nat} {es : List Ed} (hg : Gr n es) {j : Nat} (hj : j < n) : 0 ≤ (rootsOf n es).getD j 0 ∧ (rootsOf n es).getD j 0 ≤ (j : Int) := by
  have h1 := (roots_conn hg hj).range hg (by omega)
  have h2 := roots_le hg hj hj (.refl _)
  omega
/-- one root: connected -/
theorem roots_iff {n : Nat} {es : List Ed} (hg : Gr n es) {i j : Nat} (hi : i < n) (hj : j < n) : (rootsOf n es).getD i 0 = (rootsOf n es).getD j 0 ↔ Cn es (i : Int) (j : Int) := by
  constructor
  · intro h
    have h1 := roots_conn hg hi; have h2 := roots_conn hg hj
    rw [h] at h1; exact h1.trans h2.symm
  · intro h
    have ri := roots_range hg hi; have rj := roots_range hg hj
    have a1 := roots_le hg hi (v := ((rootsOf n es).getD j 0).toNat) (by omega) (by rw [Int.toNat_of_nonneg rj.1]; exact ((roots_conn hg hj).symm.trans h.symm))
    have a2 := roots_le hg hj (v := ((rootsOf n es).getD i 0).toNat) (by omega) (by rw [Int.toNat_of_nonneg ri.1]; exact ((roots_conn hg hi).symm.trans h))
    omega
/-- the vertices of one label -/
def partOf (r : List Int) (x : Int) (k : Nat) : List Int := ((List.range k).filter fun i => decide (r.getD i 0 = x)).map Int.ofNat
theorem part_succ_t {r : List Int} {x : Int} {k : Nat} (h : r.getD k 0 = x) : partOf r x (k + 1) = partOf r x k ++ [(k : Int)] := by
  simp only [partOf, List.range_succ, List.filter_append, List.map_append]
  rw [List.filter_cons, if_pos (by simpa using h)]; rfl
theorem part_succ_f {r : List Int} {x : Int} {k : Nat} (h : ¬ r.getD k 0 = x) : partOf r x (k + 1) = partOf r x k := by
  simp only [partOf, List.range_succ, List.filter_append, List.map_append]
  rw [List.filter_cons, if_neg (by simpa using h)]; simp
theorem part_len (r : List Int) (x : Int) (k : Nat) : (partOf r x k).length ≤ k := by
  unfold partOf; rw [List.length_map]; exact Nat.le_trans (List.length_filter_le _ _) (by simp)
theorem comp_part {n : Nat} {es : List Ed} (hg : Gr n es) {v : Nat} (hv : v < n) : compOf n es v = partOf (rootsOf n es) ((rootsOf n es).getD v 0) n := by
  unfold compOf trues partOf
  congr 1
  apply List.filter_congr
  intro j hj
  have hj' := List.mem_range.1 hj
  rw [Bool.eq_iff_iff, decide_eq_true_eq, inOf_iff hg hv j hj', ← roots_iff hg hv hj']
  exact eq_comm
theorem head_filter_map {n : Nat} {p : Nat → Bool} {q : Nat} (hq : q < n) (hp : p q = true) (hl : ∀ i, i < q → p i = false) : (((List.range n).filter p).map Int.ofNat).getD 0 0 = (q : Int) := by
  have key : ∀ m, m ≤ n → (∀ i, i < m → p i = false) ∨ (q < m ∧ (((List.range m).filter p).map Int.ofNat).getD 0 0 = (q : Int)) := by
    intro m
    induction m with
    | zero => intro _; left; intro i hi; omega
    | succ m ih =>
      intro hm
      rcases ih (by omega) with h | ⟨hqm, h⟩
      · by_cases e : p m = true
        · right
          have hmq : m = q := by
            rcases Nat.lt_trichotomy m q with h2 | h2 | h2
            · rw [hl m h2] at e; cases e
            · exact h2
            · rw [h q h2] at hp; cases hp
          subst hmq
          have hnil : (List.range m).filter p = [] := List.filter_eq_nil_iff.2 fun x hx => by rw [h x (List.mem_range.1 hx)]; decide
          exact ⟨by omega, by rw [List.range_succ, List.filter_append, hnil, List.filter_cons, if_pos e]; rfl⟩
        · left; intro i hi
          rcases Nat.lt_succ_iff_lt_or_eq.1 hi with h2 | rfl
          · exact h i h2
          · simpa using e
      · right
        refine ⟨by omega, ?_⟩
        have hne : 0 < (((List.range m).filter p).map Int.ofNat).length := by
          rw [List.length_map]; exact List.length_pos_of_mem (List.mem_filter.2 ⟨List.mem_range.2 hqm, hp⟩)
        rw [List.range_succ, List.filter_append, List.map_append, List.getD_eq_getElem?_getD, List.getElem?_append, if_pos hne]
        rwa [List.getD_eq_getElem?_getD] at h
  rcases key n (Nat.le_refl _) with h | h
  · rw [h q hq] at hp; cases hp
  · exact h.2
theorem comp_head {n : Nat} {es : List Ed} (hg : Gr n es) {v : Nat} (hv : v < n) : (compOf n es v).getD 0 0 = (rootsOf n es).getD v 0 := by
  have hr := roots_range hg hv
  rw [comp_part hg hv]
  unfold partOf
  have h := head_filter_map (n := n) (p := fun i => decide ((rootsOf n es).getD i 0 = (rootsOf n es).getD v 0)) (q := ((rootsOf n es).getD v 0).toNat) (by omega) (by
    rw [decide_eq_true_eq, roots_iff hg (by omega) hv, Int.toNat_of_nonneg hr.1]; exact (roots_conn hg hv).symm) (fun i hi => by
    rw [decide_eq_false_iff_not, roots_iff hg (by omega) hv]
    intro hc
    have := roots_le hg hv (v := i) (by omega) hc
    omega)
  rw [Int.toNat_of_nonneg hr.1] at h
  exact h
theorem comp_mem_self {n : Nat} {es : List Ed} (hg : Gr n es) {v : Nat} (hv : v < n) : (v : Int) ∈ compOf n es v := by
  unfold compOf; rw [mem_trues]; exact ⟨by omega, by omega, by rw [Int.toNat_natCast]; exact (inOf_iff hg hv v hv).2 (.refl _)⟩
theorem comp_pos {n : Nat} {es : List Ed} (hg : Gr n es) {v : Nat} (hv : v < n) : 0 < (compOf n es v).length := List.length_pos_of_mem (comp_mem_self hg hv)
/-- the components, by their first vertices -/
def compsTo (n : Nat) (es : List Ed) (k : Nat) : List (List Int) := ((List.range k).filter fun (v : Nat) => decide ((rootsOf n es).getD v 0 = (v : Int))).map fun (v : Nat) => partOf (rootsOf n es) (v : Int) n
def compsL (n : Nat) (es : List Ed) : List (List Int) := compsTo n es n
theorem comps_succ_t {n : Nat} {es : List Ed} {k : Nat} (h : (rootsOf n es).getD k 0 = (k : Int)) : compsTo n es (k + 1) = compsTo n es k ++ [partOf (rootsOf n es) (k : Int) n] := by
  simp only [compsTo, List.range_succ, List.filter_append, List.map_append]
  rw [List.filter_cons, if_pos (by simpa using h)]; rfl
theorem comps_succ_f {n : Nat} {es : List Ed} {k : Nat} (h : ¬ (rootsOf n es).getD k 0 = (k : Int)) : compsTo n es (k + 1) = compsTo n es k := by
  simp only [compsTo, List.range_succ, List.filter_append, List.map_append]
  rw [List.filter_cons, if_neg (by simpa using h)]; simp
theorem comps_len (n : Nat) (es : List Ed) (k : Nat) : (compsTo n es k).length ≤ k := by
  unfold compsTo; rw [List.length_map]; exact Nat.le_trans (List.length_filter_le _ _) (by simp)
theorem comps_part {n : Nat} {es : List Ed} {p : List Int} (h : p ∈ compsL n es) : p.length ≤ n ∧ 0 < p.length ∧ ∀ x ∈ p, 0 ≤ x ∧ x < (n : Int) := by
  obtain ⟨v, hv, rfl⟩ := List.mem_map.1 h
  have hv2 := List.mem_filter.1 hv
  have hv3 := List.mem_range.1 hv2.1
  refine ⟨part_len _ _ _, List.length_pos_of_mem (a := (v : Int)) ?_, fun x hx => ?_⟩
  · exact List.mem_map.2 ⟨v, List.mem_filter.2 ⟨List.mem_range.2 hv3, hv2.2⟩, rfl⟩
  · obtain ⟨i, hi, rfl⟩ := List.mem_map.1 hx
    have := List.mem_range.1 (List.mem_filter.1 hi).1
    simp; omega
end Go.Plain
