/- Codes of threshold graphs: the vertices that are taken away one after the other, from the list of those that are left, or from the degrees of what is left. No program in sight. Conditions: those of each theorem. -/
import Derived.Test.YtkkllkkjdbpjpaaPp
import Derived.Test.YtkkllkkjdbpjpaaSs
namespace Go.Plain
open Go.Sx (bstr)
/-! ### the last one of a list -/
def lastP (p : Int → Prop) [DecidablePred p] (l : List Int) : Int := ((l.filter fun x => decide (p x)).getLast?).getD (-1)
section
variable {p : Int → Prop} [DecidablePred p]
theorem lastP_snoc (l : List Int) {a : Int} (h : p a) : lastP p (l ++ [a]) = a := by
  unfold lastP
  rw [List.filter_append, List.filter_cons_of_pos (by simpa using h)]
  simp
theorem lastP_app (l : List Int) {l2 : List Int} (h : ∀ x ∈ l2, ¬ p x) : lastP p (l ++ l2) = lastP p l := by
  unfold lastP
  rw [List.filter_append, show l2.filter (fun x => decide (p x)) = [] from List.filter_eq_nil_iff.2 fun x hx => by simpa using h x hx, List.append_nil]
theorem lastP_idx {l : List Int} {j : Nat} (hj : j < l.length) (hp : p (l.getD j 0)) (hl : ∀ i, j < i → i < l.length → ¬ p (l.getD i 0)) : lastP p l = l.getD j 0 := by
  have e : l = (l.take j ++ [l.getD j 0]) ++ l.drop (j + 1) := by
    rw [← take_snoc 0 hj, List.take_append_drop]
  have h1 : lastP p ((l.take j ++ [l.getD j 0]) ++ l.drop (j + 1)) = l.getD j 0 := by
    rw [lastP_app _ (fun x hx => ?_), lastP_snoc _ hp]
    obtain ⟨i, hi, rfl⟩ := List.mem_iff_getElem.1 hx
    rw [List.length_drop] at hi
    have h2 := hl (j + 1 + i) (by omega) (by omega)
    rw [List.getElem_drop]
    simpa [List.getD_eq_getElem?_getD, show j + 1 + i < l.length by omega] using h2
  rwa [← e] at h1
theorem lastP_no {l : List Int} (h : ∀ i, i < l.length → ¬ p (l.getD i 0)) : lastP p l = -1 := by
  unfold lastP
  rw [show l.filter (fun x => decide (p x)) = [] from List.filter_eq_nil_iff.2 fun x hx => ?_]
  · rfl
  · obtain ⟨i, hi, rfl⟩ := List.mem_iff_getElem.1 hx
    have := h i hi
    simpa [List.getD_eq_getElem?_getD, hi] using this
theorem lastP_mem {l : List Int} (h : 0 ≤ lastP p l) : lastP p l ∈ l ∧ p (lastP p l) := by
  unfold lastP at *
  rcases hf : (l.filter fun x => decide (p x)).getLast? with _ | z
  · rw [hf] at h; simp at h
  · have h1 := List.mem_of_getLast? hf
    rw [List.mem_filter, decide_eq_true_eq] at h1
    simpa using h1
end

/-! ### the vertices that are taken away -/
def adjP (es : List Ed) (v : Int) : Int → Bool := fun u => decide (u ≠ v) && decide (edg u v ∈ es)
def leftC (n : Nat) (gn : List Int) : List Int := (ids n).filter fun u => !decide (u ∈ gn)
def nbr (es : List Ed) (ls : List Int) (v : Int) : Int := countI (adjP es v) ls
def okC (es : List Ed) (ls : List Int) (k v : Int) : Prop := nbr es ls v = 0 ∨ nbr es ls v = k
instance (es : List Ed) (ls : List Int) (k v : Int) : Decidable (okC es ls k v) := by unfold okC; exact inferInstance
def pickC (n : Nat) (es : List Ed) (gn : List Int) (k : Int) : Int := lastP (fun v => okC es (leftC n gn) k v) (leftC n gn)
def goneC (n : Nat) (es : List Ed) : Nat → List Int
  | 0 => []
  | j + 1 => goneC n es j ++ [pickC n es (goneC n es j) ((n : Int) - 1 - (j : Int))]
def vC (n : Nat) (es : List Ed) (j : Nat) : Int := pickC n es (goneC n es j) ((n : Int) - 1 - (j : Int))
def letC (n : Nat) (es : List Ed) (j : Nat) : UInt8 := if 0 < nbr es (leftC n (goneC n es j)) (vC n es j) then 100 else 105
def letsC (n : Nat) (es : List Ed) : Nat → List UInt8
  | 0 => []
  | j + 1 => letsC n es j ++ [letC n es j]
theorem goneC_succ (n : Nat) (es : List Ed) (j : Nat) : goneC n es (j + 1) = goneC n es j ++ [vC n es j] := rfl
theorem letsC_succ (n : Nat) (es : List Ed) (j : Nat) : letsC n es (j + 1) = letsC n es j ++ [letC n es j] := rfl
theorem goneC_length (n : Nat) (es : List Ed) : ∀ j, (goneC n es j).length = j
  | 0 => rfl
  | j + 1 => by rw [goneC_succ, List.length_append, goneC_length n es j]; rfl
theorem letsC_length (n : Nat) (es : List Ed) : ∀ j, (letsC n es j).length = j
  | 0 => rfl
  | j + 1 => by rw [letsC_succ, List.length_append, letsC_length n es j]; rfl
/-- the first j have been found -/
def OkTo (n : Nat) (es : List Ed) (j : Nat) : Prop := ∀ i, i < j → 0 ≤ vC n es i
instance (n : Nat) (es : List Ed) (j : Nat) : Decidable (OkTo n es j) := by unfold OkTo; exact inferInstance
theorem OkTo.succ {n : Nat} {es : List Ed} {j : Nat} (h : OkTo n es j) (h1 : 0 ≤ vC n es j) : OkTo n es (j + 1) := fun i hi => by
  rcases Nat.lt_or_ge i j with h2 | h2
  · exact h i h2
  · rw [show i = j from by omega]; exact h1
theorem mem_idsC {n : Nat} {x : Int} : x ∈ ids n ↔ 0 ≤ x ∧ x < (n : Int) := by
  unfold ids
  rw [List.mem_map]
  constructor
  · rintro ⟨i, hi, rfl⟩
    rw [List.mem_range] at hi
    exact ⟨Int.natCast_nonneg _, by show (i : Int) < n; omega⟩
  · rintro ⟨h1, h2⟩
    exact ⟨x.toNat, List.mem_range.2 (by omega), by show ((x.toNat : Nat) : Int) = x; omega⟩
theorem mem_leftC {n : Nat} {gn : List Int} {x : Int} : x ∈ leftC n gn ↔ (0 ≤ x ∧ x < (n : Int)) ∧ x ∉ gn := by
  unfold leftC
  rw [List.mem_filter, mem_idsC]; simp
theorem gone_facts {n : Nat} {es : List Ed} : ∀ {j : Nat}, OkTo n es j → (goneC n es j).Nodup ∧ ∀ x ∈ goneC n es j, 0 ≤ x ∧ x < (n : Int)
  | 0, _ => ⟨List.nodup_nil, fun _ h => by cases h⟩
  | j + 1, h => by
    obtain ⟨h1, h2⟩ := gone_facts (j := j) (fun i hi => h i (by omega))
    have h3 := mem_leftC.1 (lastP_mem (h j (by omega))).1
    rw [goneC_succ]
    refine ⟨?_, fun x hx => ?_⟩
    · rw [List.nodup_append]
      exact ⟨h1, by simp, fun a ha b hb => by rw [List.mem_singleton] at hb; subst hb; intro e; subst e; exact h3.2 ha⟩
    · rcases List.mem_append.1 hx with hx | hx
      · exact h2 x hx
      · rw [List.mem_singleton] at hx; subst hx; exact h3.1
theorem leftC_len {n : Nat} {es : List Ed} {j : Nat} (h : OkTo n es j) : (leftC n (goneC n es j)).length + j = n := by
  have h1 := gone_facts h
  have h2 := left_len (n := n) h1.1 h1.2
  rw [goneC_length] at h2
  exact h2
theorem leftC_zero (n : Nat) (es : List Ed) : leftC n (goneC n es 0) = ids n := by
  unfold leftC goneC
  rw [List.filter_eq_self]
  intro x _; simp
theorem idx_idsC (n : Nat) : idx n (-1) = ids n := idx_ids n
theorem leftC_succ (n : Nat) (es : List Ed) (j : Nat) : leftC n (goneC n es (j + 1)) = (leftC n (goneC n es j)).filter (fun u => !decide (u = vC n es j)) := by
  unfold leftC
  rw [List.filter_filter, goneC_succ]
  congr 1
  funext u
  simp only [List.mem_append, List.mem_singleton]
  by_cases h1 : u ∈ goneC n es j <;> by_cases h2 : u = vC n es j <;> simp [h1, h2]
theorem nbr_bd (es : List Ed) (ls : List Int) (v : Int) : 0 ≤ nbr es ls v ∧ nbr es ls v ≤ ls.length := countI_bd _ _
theorem pickS (n : Nat) (es : List Ed) (gn : List Int) (k : Int) : pickC n es gn k = lastP (fun v => v ∉ gn ∧ okC es (leftC n gn) k v) (ids n) := by
  unfold pickC
  conv => lhs; unfold lastP
  conv => rhs; unfold lastP
  congr 2
  rw [show ∀ q : Int → Bool, (leftC n gn).filter q = ((ids n).filter fun u => !decide (u ∈ gn)).filter q from fun _ => rfl, List.filter_filter]
  congr 1
  funext u
  by_cases h1 : u ∈ gn <;> simp [h1]
theorem ids_lenC (n : Nat) : (ids n).length = n := by simp [ids]
theorem ids_getC {n i : Nat} (h : i < n) : (ids n).getD i 0 = (i : Int) := by simp [ids, h]

/-! ### what is left of the edges -/
def nowE (es : List Ed) (gn : List Int) : List Ed := es.filter fun e => !decide (e.1 ∈ gn) && !decide (e.2 ∈ gn)
theorem nowE_nil (es : List Ed) : nowE es [] = es := by unfold nowE; rw [List.filter_eq_self]; intro x _; simp
theorem nowE_sub (es : List Ed) (gn : List Int) : ∀ e ∈ nowE es gn, e ∈ es := fun _ he => (List.mem_filter.1 he).1
theorem nowE_len (es : List Ed) (gn : List Int) : (nowE es gn).length ≤ es.length := List.length_filter_le _ _
def dropTo (X : List Ed) (v : Int) : Nat → List Ed
  | 0 => X
  | k + 1 => delE (dropTo X v k) v (k : Int)
theorem dropTo_len (X : List Ed) (v : Int) : ∀ k, (dropTo X v k).length ≤ X.length
  | 0 => Nat.le_refl _
  | k + 1 => Nat.le_trans (List.length_filter_le _ _) (dropTo_len X v k)
theorem dropTo_eq (X : List Ed) (v : Int) : ∀ k, dropTo X v k = X.filter fun e => (List.range k).all fun w => !decide (e = edg v ((w : Nat) : Int))
  | 0 => by
    unfold dropTo
    exact (List.filter_eq_self.2 fun x _ => by simp).symm
  | k + 1 => by
    unfold dropTo delE
    rw [dropTo_eq X v k, List.filter_filter]
    congr 1
    funext e
    rw [List.range_succ, List.all_append]
    simp only [List.all_cons, List.all_nil, Bool.and_true]
    exact Bool.and_comm _ _
theorem dropTo_now {n : Nat} {es : List Ed} (hg : Gr n es) (gn : List Int) {v : Int} (hv : 0 ≤ v ∧ v < (n : Int)) : dropTo (nowE es gn) v n = nowE es (gn ++ [v]) := by
  rw [dropTo_eq]
  unfold nowE
  rw [List.filter_filter]
  apply List.filter_congr
  intro e he
  have hr := hg.inr e he
  have key : ((List.range n).all fun w => !decide (e = edg v ((w : Nat) : Int))) = (!decide (e.1 = v) && !decide (e.2 = v)) := by
    rw [Bool.eq_iff_iff]
    simp only [List.all_eq_true, List.mem_range, Bool.not_eq_true', decide_eq_false_iff_not, Bool.and_eq_true]
    constructor
    · intro h
      constructor
      · intro h1
        refine h e.2.toNat (by omega) (Prod.ext ?_ ?_) <;> simp only [edg] <;> omega
      · intro h1
        refine h e.1.toNat (by omega) (Prod.ext ?_ ?_) <;> simp only [edg] <;> omega
    · rintro ⟨h1, h2⟩ w hw h3
      have e1 : e.1 = min v ((w : Nat) : Int) := congrArg (fun q : Ed => q.1) h3
      have e2 : e.2 = max v ((w : Nat) : Int) := congrArg (fun q : Ed => q.2) h3
      omega
  rw [key]
  simp only [List.mem_append, List.mem_singleton]
  by_cases h1 : e.1 ∈ gn <;> by_cases h2 : e.2 ∈ gn <;> by_cases h3 : e.1 = v <;> by_cases h4 : e.2 = v <;> simp [h1, h2, h3, h4]
/-- the degrees in what is left are the numbers of neighbours that are left -/
theorem dcount_now {n : Nat} {es : List Ed} (hg : Gr n es) {gn : List Int} {u : Nat} (hu : u < n) (hn : ((u : Nat) : Int) ∉ gn) : ((dcount (nowE es gn) u : Nat) : Int) = nbr es (leftC n gn) ((u : Nat) : Int) := by
  unfold nbr countI
  congr 1
  unfold dcount
  rw [List.countP_eq_length_filter, List.countP_eq_length_filter]
  have hA : ((leftC n gn).filter (adjP es ((u : Nat) : Int))).Nodup := ((ids_nodup n).filter _).filter _
  have h1 : (((leftC n gn).filter (adjP es ((u : Nat) : Int))).map fun w => edg w ((u : Nat) : Int)).Nodup := by
    unfold List.Nodup
    rw [List.pairwise_map]
    refine hA.imp_of_mem fun {a b} ha hb hab e => hab ?_
    have ha1 := (List.mem_filter.1 ha).2
    have hb1 := (List.mem_filter.1 hb).2
    simp only [adjP, Bool.and_eq_true, decide_eq_true_eq] at ha1 hb1
    have e1 : min a ((u : Nat) : Int) = min b ((u : Nat) : Int) := congrArg (fun q : Ed => q.1) e
    have e2 : max a ((u : Nat) : Int) = max b ((u : Nat) : Int) := congrArg (fun q : Ed => q.2) e
    omega
  have h2 : ((nowE es gn).filter fun e => decide (((u : Nat) : Int) = e.1 ∨ ((u : Nat) : Int) = e.2)).Nodup := (hg.nodup.filter _).filter _
  have hp := nodup_perm h2 h1 fun e => ?_
  · have := hp.length_eq
    rw [List.length_map] at this
    exact this
  · rw [List.mem_filter, List.mem_map, decide_eq_true_eq]
    unfold nowE
    rw [List.mem_filter]
    constructor
    · rintro ⟨⟨he, hgn⟩, ht⟩
      have hr := hg.inr e he
      simp only [Bool.and_eq_true, Bool.not_eq_true', decide_eq_false_iff_not] at hgn
      rcases ht with ht | ht
      · have ee : edg e.2 ((u : Nat) : Int) = e := by refine Prod.ext ?_ ?_ <;> simp only [edg] <;> omega
        refine ⟨e.2, List.mem_filter.2 ⟨mem_leftC.2 ⟨by omega, hgn.2⟩, ?_⟩, ee⟩
        simp only [adjP, Bool.and_eq_true, decide_eq_true_eq]
        exact ⟨by omega, by rw [ee]; exact he⟩
      · have ee : edg e.1 ((u : Nat) : Int) = e := by refine Prod.ext ?_ ?_ <;> simp only [edg] <;> omega
        refine ⟨e.1, List.mem_filter.2 ⟨mem_leftC.2 ⟨by omega, hgn.1⟩, ?_⟩, ee⟩
        simp only [adjP, Bool.and_eq_true, decide_eq_true_eq]
        exact ⟨by omega, by rw [ee]; exact he⟩
    · rintro ⟨w, hw, rfl⟩
      rw [List.mem_filter] at hw
      obtain ⟨hw1, hw2⟩ := hw
      have hw3 := mem_leftC.1 hw1
      simp only [adjP, Bool.and_eq_true, decide_eq_true_eq] at hw2
      have hsplit : (w < ((u : Nat) : Int) ∧ edg w ((u : Nat) : Int) = (w, ((u : Nat) : Int))) ∨ (((u : Nat) : Int) < w ∧ edg w ((u : Nat) : Int) = (((u : Nat) : Int), w)) := by
        rcases Int.lt_or_gt_of_ne hw2.1 with h | h
        · exact .inl ⟨h, by refine Prod.ext ?_ ?_ <;> simp only [edg] <;> omega⟩
        · exact .inr ⟨h, by refine Prod.ext ?_ ?_ <;> simp only [edg] <;> omega⟩
      rcases hsplit with ⟨_, ee⟩ | ⟨_, ee⟩
      · refine ⟨⟨hw2.2, ?_⟩, ?_⟩
        · rw [ee]; simp [hw3.2, hn]
        · rw [ee]; exact .inr rfl
      · refine ⟨⟨hw2.2, ?_⟩, ?_⟩
        · rw [ee]; simp [hw3.2, hn]
        · rw [ee]; exact .inl rfl
theorem degs_now {n : Nat} {es : List Ed} (hg : Gr n es) {gn : List Int} {u : Nat} (hu : u < n) (hn : ((u : Nat) : Int) ∉ gn) : (degs n (nowE es gn)).getD u 0 = nbr es (leftC n gn) ((u : Nat) : Int) := by
  rw [degs_get (fun e he => hg.inr e (nowE_sub _ _ e he)), dcount_now hg hu hn]

/-! ### what both sides come upon -/
theorem degs_ok {n : Nat} {es : List Ed} (hg : Gr n es) {gn : List Int} {u : Nat} (hu : u < n) (hn : ((u : Nat) : Int) ∉ gn) {k : Int} : okC es (leftC n gn) k ((u : Nat) : Int) ↔ (degs n (nowE es gn)).getD u 0 = 0 ∨ (degs n (nowE es gn)).getD u 0 = k := by
  rw [degs_now hg hu hn]; exact Iff.rfl
theorem spec_pick {n : Nat} {es : List Ed} {gn : List Int} {k : Int} {u : Nat} (hu : u < n) (hn : ((u : Nat) : Int) ∉ gn) (hok : okC es (leftC n gn) k ((u : Nat) : Int)) (hl : ∀ i, u + 1 ≤ i → i < n → ¬ (((i : Nat) : Int) ∉ gn ∧ okC es (leftC n gn) k ((i : Nat) : Int))) : pickC n es gn k = ((u : Nat) : Int) := by
  rw [pickS]
  have e := ids_getC hu
  have h := lastP_idx (p := fun v => v ∉ gn ∧ okC es (leftC n gn) k v) (l := ids n) (j := u) (by rw [ids_lenC]; exact hu) (by rw [e]; exact ⟨hn, hok⟩) (fun i h1 h2 => by
    rw [ids_lenC] at h2
    rw [ids_getC h2]
    exact hl i h1 h2)
  rw [h, e]
theorem spec_none {n : Nat} {es : List Ed} {gn : List Int} {k : Int} (hl : ∀ i, i < n → ¬ (((i : Nat) : Int) ∉ gn ∧ okC es (leftC n gn) k ((i : Nat) : Int))) : pickC n es gn k = -1 := by
  rw [pickS]
  refine lastP_no fun i h2 => ?_
  rw [ids_lenC] at h2
  rw [ids_getC h2]
  exact hl i h2
theorem impl_pick {n : Nat} {es : List Ed} {j i : Nat} (hj : j < n) (hi : i < (leftC n (goneC n es j)).length) (hok : okC es (leftC n (goneC n es j)) (((n - 1 - j : Nat) : Nat) : Int) ((leftC n (goneC n es j)).getD i 0)) (hl : ∀ q, i < q → q < (leftC n (goneC n es j)).length → ¬ okC es (leftC n (goneC n es j)) (((n - 1 - j : Nat) : Nat) : Int) ((leftC n (goneC n es j)).getD q 0)) : vC n es j = (leftC n (goneC n es j)).getD i 0 := by
  unfold vC pickC
  rw [show ((n : Int) - 1 - (j : Int)) = (((n - 1 - j : Nat) : Nat) : Int) from by omega]
  exact lastP_idx hi hok hl
theorem impl_none {n : Nat} {es : List Ed} {j : Nat} (hj : j < n) (hl : ∀ q, q < (leftC n (goneC n es j)).length → ¬ okC es (leftC n (goneC n es j)) (((n - 1 - j : Nat) : Nat) : Int) ((leftC n (goneC n es j)).getD q 0)) : vC n es j = -1 := by
  unfold vC pickC
  rw [show ((n : Int) - 1 - (j : Int)) = (((n - 1 - j : Nat) : Nat) : Int) from by omega]
  exact lastP_no hl
theorem left_get {n : Nat} {gn : List Int} {i : Nat} (hi : i < (leftC n gn).length) : 0 ≤ (leftC n gn).getD i 0 ∧ (leftC n gn).getD i 0 < (n : Int) := (mem_leftC.1 (getD_mem 0 hi)).1
theorem set_front {α : Type} (z a : α) (X : List α) : ∀ k : Nat, (List.replicate (k + 1) z ++ X).set k a = List.replicate k z ++ a :: X
  | 0 => rfl
  | k + 1 => by
    rw [List.replicate_succ, List.cons_append, List.set_cons_succ, set_front z a X k, List.replicate_succ, List.cons_append]
theorem l26_len {n : Nat} {es : List Ed} {j : Nat} : (List.replicate (n - j) 0 ++ (letsC n es j).reverse.map UInt8.toNat).length = n - j + j := by
  rw [List.length_append, List.length_replicate, List.length_map, List.length_reverse, letsC_length]
theorem l29_len {n : Nat} {es : List Ed} {j : Nat} : (List.replicate (n - j) (0 : Int) ++ (goneC n es j).reverse).length = n - j + j := by
  rw [List.length_append, List.length_replicate, List.length_reverse, goneC_length]
theorem gone_next {n : Nat} {es : List Ed} {j : Nat} (hj : j < n) : (List.replicate (n - j) (0 : Int) ++ (goneC n es j).reverse).set (n - 1 - j) (vC n es j) = List.replicate (n - (j + 1)) 0 ++ (goneC n es (j + 1)).reverse := by
  rw [goneC_succ, List.reverse_append, show n - j = (n - 1 - j) + 1 from by omega, set_front, show n - (j + 1) = n - 1 - j from by omega]; rfl
theorem lets_next {n : Nat} {es : List Ed} {j : Nat} (hj : j < n) : (List.replicate (n - j) 0 ++ (letsC n es j).reverse.map UInt8.toNat).set (n - 1 - j) (if 0 < nbr es (leftC n (goneC n es j)) (vC n es j) then 100 else 105) = List.replicate (n - (j + 1)) 0 ++ (letsC n es (j + 1)).reverse.map UInt8.toNat := by
  rw [letsC_succ, List.reverse_append, show n - j = (n - 1 - j) + 1 from by omega, set_front, show n - (j + 1) = n - 1 - j from by omega]
  simp only [List.reverse_cons, List.reverse_nil, List.nil_append, List.cons_append, List.map_cons]
  congr 2
  unfold letC
  split <;> rfl

/-! ### the code -/
def codeM (n : Nat) (es : List Ed) : ByteArray × List Int × Bool :=
  if OkTo n es n then (bstr (letsC n es n).reverse, (goneC n es n).reverse, true) else (bstr [], [], false)
def codeC (N : Int) (es : List Ed) : ByteArray × List Int × Bool := if ValidG N es ∧ N ≠ 0 then codeM N.toNat es else (bstr [], [], false)
theorem codeC_no {N : Int} {es : List Ed} (h : ¬ (ValidG N es ∧ N ≠ 0)) : codeC N es = (bstr [], [], false) := if_neg h
theorem codeC_M {n : Nat} {es : List Ed} (h : ValidG ((n : Nat) : Int) es ∧ ((n : Nat) : Int) ≠ 0) : codeC ((n : Nat) : Int) es = codeM n es := (if_pos h).trans (by rw [Int.toNat_natCast])
theorem codeM_fail {n : Nat} {es : List Ed} {j : Nat} (hj : j < n) (h : ¬ 0 ≤ vC n es j) : codeM n es = (bstr [], [], false) := if_neg (fun h' => h (h' j hj))
theorem codeM_yes {n : Nat} {es : List Ed} (h : OkTo n es n) : codeM n es = (bstr (letsC n es n).reverse, (goneC n es n).reverse, true) := if_pos h
theorem codeM_len (n : Nat) (es : List Ed) : (codeM n es).2.1.length ≤ n ∧ (codeM n es).1.size ≤ n := by
  unfold codeM
  split
  · rw [List.length_reverse, goneC_length, Go.Sx.bstr_size, List.length_reverse, letsC_length]
    exact ⟨Nat.le_refl _, Nat.le_refl _⟩
  · exact ⟨by simp, by rw [Go.Sx.bstr_size]; simp⟩
theorem codeC_len (N : Int) (es : List Ed) : (codeC N es).2.1.length ≤ 7 ∧ (codeC N es).1.size ≤ 7 := by
  unfold codeC
  split
  · rename_i h
    have h7 := h.1.2
    have := codeM_len N.toNat es
    omega
  · exact ⟨by simp, by rw [Go.Sx.bstr_size]; simp⟩
end Go.Plain
