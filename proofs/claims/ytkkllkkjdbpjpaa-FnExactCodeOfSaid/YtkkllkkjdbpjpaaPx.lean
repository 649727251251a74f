/- Matchings and odd components: parity, and the easy bound. No program in sight. Conditions: those of each theorem. -/
import Derived.Test.YtkkllkkjdbpjpaaPw
namespace Go.Plain
/-! ### sums over the first numbers -/
def sumN (g : Nat → Nat) : Nat → Nat
  | 0 => 0
  | n + 1 => sumN g n + g n
theorem sumN_add (f g : Nat → Nat) : ∀ n, sumN (fun v => f v + g v) n = sumN f n + sumN g n
  | 0 => rfl
  | n + 1 => by simp only [sumN]; rw [sumN_add f g n]; omega
theorem sumN_congr {f g : Nat → Nat} : ∀ {n : Nat}, (∀ v, v < n → f v = g v) → sumN f n = sumN g n
  | 0, _ => rfl
  | n + 1, h => by simp only [sumN]; rw [sumN_congr (n := n) (fun v hv => h v (by omega)), h n (by omega)]
theorem sumN_le {f g : Nat → Nat} : ∀ {n : Nat}, (∀ v, v < n → f v ≤ g v) → sumN f n ≤ sumN g n
  | 0, _ => Nat.le_refl _
  | n + 1, h => by simp only [sumN]; have h1 := sumN_le (n := n) (fun v hv => h v (by omega)); have h2 := h n (by omega); omega
theorem sumN_zero : ∀ n, sumN (fun _ => 0) n = 0
  | 0 => rfl
  | n + 1 => by simp only [sumN]; rw [sumN_zero n]
theorem sumN_one (x : Int) : ∀ n : Nat, sumN (fun v => if x = (v : Int) then 1 else 0) n = if 0 ≤ x ∧ x < (n : Int) then 1 else 0
  | 0 => by rw [if_neg (by omega)]; rfl
  | n + 1 => by
    simp only [sumN]; rw [sumN_one x n]
    by_cases h1 : x = (n : Int)
    · rw [if_pos h1, if_neg (by omega), if_pos (by omega)]
    · rw [if_neg h1]
      by_cases h2 : 0 ≤ x ∧ x < (n : Int)
      · rw [if_pos h2, if_pos (by omega)]
      · rw [if_neg h2, if_neg (by omega)]
theorem sumN_count {α : Type} (f : α → Int) (n : Nat) : ∀ (X : List α), (∀ x ∈ X, 0 ≤ f x ∧ f x < (n : Int)) → sumN (fun v => X.countP (fun x => decide (f x = (v : Int)))) n = X.length
  | [], _ => sumN_zero n
  | x :: X, h => by
    have h1 := sumN_count f n X (fun y hy => h y (List.mem_cons_of_mem _ hy))
    have h2 := sumN_one (f x) n
    rw [if_pos (h x (by simp))] at h2
    rw [List.length_cons, ← h1, ← h2, ← sumN_add]
    refine sumN_congr fun v _ => ?_
    rw [List.countP_cons]
    by_cases hc : f x = (v : Int)
    · rw [if_pos (decide_eq_true hc), if_pos hc]
    · rw [if_neg (by rw [decide_eq_true_eq]; exact hc), if_neg hc]
theorem countP_range (p : Nat → Bool) : ∀ n, (List.range n).countP p = sumN (fun v => if p v = true then 1 else 0) n
  | 0 => rfl
  | n + 1 => by rw [List.range_succ, List.countP_append, countP_range p n, List.countP_cons, List.countP_nil]; simp only [sumN]; omega
theorem sumN_parity (f : Nat → Nat) : ∀ n, sumN f n % 2 = sumN (fun v => if f v % 2 = 1 then 1 else 0) n % 2
  | 0 => rfl
  | n + 1 => by
    have h := sumN_parity f n
    simp only [sumN]
    by_cases hc : f n % 2 = 1
    · rw [if_pos hc]; omega
    · rw [if_neg hc]; omega
/-! ### matchings -/
def meets (e f : Ed) : Bool := decide (f.1 = e.1 ∨ f.1 = e.2 ∨ f.2 = e.1 ∨ f.2 = e.2)
theorem meets_false {e f : Ed} (h : meets e f = false) : f.1 ≠ e.1 ∧ f.1 ≠ e.2 ∧ f.2 ≠ e.1 ∧ f.2 ≠ e.2 := by
  have h2 := of_decide_eq_false h
  exact ⟨fun h => h2 (.inl h), fun h => h2 (.inr (.inl h)), fun h => h2 (.inr (.inr (.inl h))), fun h => h2 (.inr (.inr (.inr h)))⟩
def mm : List Ed → Nat
  | [] => 0
  | e :: r => max (mm r) (1 + mm (r.filter fun f => !meets e f))
termination_by es => es.length
decreasing_by
  · simp
  · simp only [List.length_cons]
    refine Nat.lt_succ_of_le ?_
    rw [List.length_unattach]
    exact Nat.le_trans (List.length_filter_le _ _) (by rw [List.length_attach]; exact Nat.le_refl _)
theorem mm_nil : mm [] = 0 := by rw [mm]
theorem mm_cons (e : Ed) (r : List Ed) : mm (e :: r) = max (mm r) (1 + mm (r.filter fun f => !meets e f)) := by rw [mm]
abbrev MatchP (M : List Ed) : Prop := M.Pairwise fun e f => meets e f = false
theorem mm_wit : ∀ es : List Ed, ∃ M : List Ed, M.Sublist es ∧ M.length = mm es ∧ MatchP M
  | [] => ⟨[], .slnil, by rw [mm_nil]; rfl, .nil⟩
  | e :: r => by
    obtain ⟨M1, a1, b1, c1⟩ := mm_wit r
    obtain ⟨M2, a2, b2, c2⟩ := mm_wit (r.filter fun f => !meets e f)
    rw [mm_cons]
    by_cases h : 1 + mm (r.filter fun f => !meets e f) ≤ mm r
    · exact ⟨M1, a1.cons _, by omega, c1⟩
    · exact ⟨e :: M2, (a2.trans List.filter_sublist).cons_cons _, by rw [List.length_cons]; omega, List.pairwise_cons.2 ⟨fun f hf => by have := (List.mem_filter.1 (a2.subset hf)).2; simpa using this, c2⟩⟩
termination_by es => es.length
decreasing_by
  · simp
  · have := List.length_filter_le (fun f => !meets e f) r; simp only [List.length_cons]; omega
theorem mm_len (es : List Ed) : mm es ≤ es.length := by
  obtain ⟨M, h1, h2, _⟩ := mm_wit es
  rw [← h2]; exact h1.length_le
def ends : List Ed → List Int
  | [] => []
  | e :: r => e.1 :: e.2 :: ends r
theorem ends_length : ∀ M : List Ed, (ends M).length = 2 * M.length
  | [] => rfl
  | e :: r => by rw [ends, List.length_cons, List.length_cons, List.length_cons, ends_length r]; omega
theorem mem_ends {x : Int} : ∀ {M : List Ed}, x ∈ ends M → ∃ e ∈ M, x = e.1 ∨ x = e.2
  | e :: r, h => by
    rw [ends] at h
    rcases List.mem_cons.1 h with h1 | h1
    · exact ⟨e, by simp, .inl h1⟩
    · rcases List.mem_cons.1 h1 with h2 | h2
      · exact ⟨e, by simp, .inr h2⟩
      · obtain ⟨f, hf, hx⟩ := mem_ends h2
        exact ⟨f, List.mem_cons_of_mem _ hf, hx⟩
theorem ends_nodup : ∀ {M : List Ed}, MatchP M → (∀ e ∈ M, e.1 < e.2) → (ends M).Nodup
  | [], _, _ => .nil
  | e :: r, h, hl => by
    have h1 := List.pairwise_cons.1 h
    have h2 := hl e (by simp)
    rw [ends, List.nodup_cons, List.nodup_cons]
    refine ⟨fun hm => ?_, fun hm => ?_, ends_nodup h1.2 fun f hf => hl f (List.mem_cons_of_mem _ hf)⟩
    · rcases List.mem_cons.1 hm with h3 | h3
      · omega
      · obtain ⟨f, hf, hx⟩ := mem_ends h3
        have h4 := meets_false (h1.1 f hf); omega
    · obtain ⟨f, hf, hx⟩ := mem_ends hm
      have h4 := meets_false (h1.1 f hf); omega
/-! ### a set of vertices, and what is left without it -/
theorem SetP.mono {W : Int} {s : List Int} (h : SetP W s) : ∀ {j i : Nat}, i < j → j < s.length → s.getD i 0 < s.getD j 0
  | 0, i, hi, _ => absurd hi (Nat.not_lt_zero _)
  | j + 1, i, hi, hj => by
    have h1 := (h (j + 1) hj).2.2 (by omega)
    rw [Nat.add_sub_cancel] at h1
    rcases Nat.lt_succ_iff_lt_or_eq.1 hi with h2 | rfl
    · have := h.mono h2 (by omega); omega
    · exact h1
theorem SetP.nodup {W : Int} {s : List Int} (h : SetP W s) : s.Nodup := by
  refine List.pairwise_iff_getElem.2 fun i j hi hj hij he => ?_
  have h1 := h.mono hij hj
  rw [List.getD_eq_getElem?_getD, List.getD_eq_getElem?_getD, List.getElem?_eq_getElem hi, List.getElem?_eq_getElem hj] at h1
  simp only [Option.getD_some] at h1
  omega
theorem SetP.inr {W : Int} {s : List Int} (h : SetP W s) : ∀ x ∈ s, 0 ≤ x ∧ x ≤ W := fun x hx => by
  obtain ⟨i, hi, rfl⟩ := List.getElem_of_mem hx
  have h1 := h i hi
  unfold okS at h1
  rw [List.getD_eq_getElem?_getD, List.getElem?_eq_getElem hi] at h1
  simp only [Option.getD_some] at h1
  omega
theorem nodup_count : ∀ {s : List Int}, s.Nodup → ∀ v : Int, s.countP (fun x => decide (x = v)) = if v ∈ s then 1 else 0
  | [], _, v => by simp
  | x :: s, h, v => by
    rw [List.nodup_cons] at h
    rw [List.countP_cons, nodup_count h.2 v]
    by_cases hx : x = v
    · subst hx; rw [if_neg h.1, if_pos (by simp), if_pos (by simp)]
    · rw [if_neg (show ¬ decide (x = v) = true from fun h => hx (of_decide_eq_true h))]
      by_cases hv : v ∈ s
      · rw [if_pos hv, if_pos (List.mem_cons_of_mem _ hv)]
      · rw [if_neg hv, if_neg (fun hm => (List.mem_cons.1 hm).elim (fun h => hx h.symm) hv)]
theorem setN_sum {n : Nat} {s : List Int} (h : SetP ((n : Int) - 1) s) : sumN (fun v => if (v : Int) ∈ s then 1 else 0) n = s.length := by
  rw [← sumN_count (fun x : Int => x) n s (fun x hx => by have := h.inr x hx; omega)]
  exact sumN_congr fun v _ => (nodup_count h.nodup v).symm
section
variable {n : Nat} {es : List Ed} {s : List Int}
def csz (n : Nat) (fs : List Ed) (v : Nat) : Nat := (partOf (rootsOf n fs) (v : Int) n).length
theorem csz_sum' {n : Nat} {fs : List Ed} (v : Nat) : csz n fs v = sumN (fun i => if (rootsOf n fs).getD i 0 = (v : Int) then 1 else 0) n := by
  unfold csz partOf
  rw [List.length_map, ← List.countP_eq_length_filter, countP_range]
  exact sumN_congr fun i _ => by simp
theorem csz_sum {fs : List Ed} (hg : Gr n fs) : sumN (csz n fs) n = n := by
  have h := sumN_count (fun i : Nat => (rootsOf n fs).getD i 0) n (List.range n) (fun i hi => by
    have h1 := List.mem_range.1 hi
    have h2 := roots_range hg h1
    omega)
  rw [List.length_range] at h
  refine Eq.trans (sumN_congr fun v _ => ?_) h
  unfold csz partOf
  rw [List.length_map, ← List.countP_eq_length_filter]
theorem csz_none {fs : List Ed} (hg : Gr n fs) {v : Nat} (hv : v < n) (h : (rootsOf n fs).getD v 0 ≠ (v : Int)) : csz n fs v = 0 := by
  rw [csz_sum']
  rw [sumN_congr (g := fun _ => 0) fun i hi => if_neg fun he => h ?_]
  · exact sumN_zero n
  · have h1 := roots_conn hg hi
    rw [he] at h1
    rw [← (roots_iff hg hi hv).2 h1]; exact he
theorem iso_cn (hv : ∀ e ∈ es, touch s e = false) {v w : Int} (hs : v ∈ s) (h : Cn es v w) : w = v := by
  induction h with
  | refl => rfl
  | fwd he hcc ih =>
    rename_i e
    have h1 := hv e he
    unfold touch at h1
    rw [Bool.or_eq_false_iff] at h1
    exact absurd (ih ▸ hs) (of_decide_eq_false h1.1)
  | bwd he hcc ih =>
    rename_i e
    have h1 := hv e he
    unfold touch at h1
    rw [Bool.or_eq_false_iff] at h1
    exact absurd (ih ▸ hs) (of_decide_eq_false h1.2)
theorem woE_touch (s : List Int) (es : List Ed) : ∀ e ∈ woE s es, touch s e = false := fun e he => by
  have := (List.mem_filter.1 he).2; simpa using this
theorem csz_set (hg : Gr n es) {v : Nat} (hv : v < n) (hs : (v : Int) ∈ s) : csz n (woE s es) v = 1 := by
  rw [csz_sum', sumN_congr (g := fun i => if (v : Int) = (i : Int) then 1 else 0) fun i hi => ?_, sumN_one, if_pos (by omega)]
  have hg2 := hg.wo s
  have hr : (rootsOf n (woE s es)).getD v 0 = (v : Int) := iso_cn (woE_touch s es) hs (roots_conn hg2 hv)
  by_cases hc : (v : Int) = (i : Int)
  · have hc2 : v = i := by omega
    subst hc2; rw [if_pos hr, if_pos rfl]
  · rw [if_neg fun he => hc ?_, if_neg hc]
    rw [← hr] at he
    exact (iso_cn (woE_touch s es) hs ((roots_iff hg2 hi hv).1 he).symm).symm
theorem odd_count (hg : Gr n es) : oddP n es s = ((sumN (fun v => if csz n (woE s es) v % 2 = 1 ∧ (v : Int) ∉ s then 1 else 0) n : Nat) : Int) := by
  have hg2 := hg.wo s
  unfold oddP oddL oddTo
  rw [List.take_length]
  unfold compsL compsTo
  rw [List.countP_map, List.countP_filter, countP_range]
  refine congrArg Int.ofNat (sumN_congr fun v hv => ?_)
  by_cases hr : (rootsOf n (woE s es)).getD v 0 = (v : Int)
  · have h1 := comp_part hg2 hv
    have h2 := comp_head hg2 hv
    rw [h1, hr] at h2
    have h3 : (oddQ s (partOf (rootsOf n (woE s es)) (v : Int) n) && decide ((rootsOf n (woE s es)).getD v 0 = (v : Int))) = decide (csz n (woE s es) v % 2 = 1 ∧ (v : Int) ∉ s) := by
      unfold oddQ csz
      rw [decide_eq_true hr, Bool.and_true, h2]
      simp
    show (if (oddQ s (partOf (rootsOf n (woE s es)) (v : Int) n) && decide ((rootsOf n (woE s es)).getD v 0 = (v : Int))) = true then 1 else 0) = _
    rw [h3]
    by_cases hc : csz n (woE s es) v % 2 = 1 ∧ (v : Int) ∉ s
    · rw [if_pos (decide_eq_true hc), if_pos hc]
    · rw [if_neg (by rw [decide_eq_true_eq]; exact hc), if_neg hc]
  · rw [if_neg (fun h => by rw [Bool.and_eq_true] at h; exact hr (of_decide_eq_true h.2)), if_neg (fun h => by rw [csz_none hg2 hv hr] at h; exact absurd h.1 (by decide))]
theorem odd_all (hg : Gr n es) (hS : SetP ((n : Int) - 1) s) : oddP n es s + s.length = ((sumN (fun v => if csz n (woE s es) v % 2 = 1 then 1 else 0) n : Nat) : Int) := by
  rw [odd_count hg, ← setN_sum hS, ← Int.natCast_add, ← sumN_add]
  refine congrArg Int.ofNat (sumN_congr fun v hv => ?_)
  by_cases hv2 : (v : Int) ∈ s
  · rw [csz_set hg hv hv2, if_neg (fun h => h.2 hv2), if_pos hv2, if_pos (by decide)]
  · rw [if_neg hv2]
    by_cases hc : csz n (woE s es) v % 2 = 1
    · rw [if_pos ⟨hc, hv2⟩, if_pos hc]
    · rw [if_neg (fun h => hc h.1), if_neg hc]
theorem odd_parity (hg : Gr n es) (hS : SetP ((n : Int) - 1) s) : (oddP n es s + s.length - n) % 2 = 0 := by
  have h1 := odd_all hg hS
  have h2 := sumN_parity (csz n (woE s es)) n
  rw [csz_sum (hg.wo s)] at h2
  omega
/-- the edges of a matching that touch a set are no more than the set -/
theorem touch_len {M : List Ed} (hM : MatchP M) : (M.filter (touch s)).length ≤ s.length := by
  have h1 : ((M.filter (touch s)).map fun e => if e.1 ∈ s then e.1 else e.2).Nodup := by
    rw [List.Nodup, List.pairwise_map]
    refine (hM.sublist List.filter_sublist).imp fun {a b} hab he => ?_
    have h4 := meets_false hab
    split at he <;> split at he <;> omega
  have h2 := nodup_len h1 (b := s) (fun x hx => by
    obtain ⟨e, he, rfl⟩ := List.mem_map.1 hx
    have h3 := (List.mem_filter.1 he).2
    unfold touch at h3
    rw [Bool.or_eq_true, decide_eq_true_eq, decide_eq_true_eq] at h3
    split
    · assumption
    · rename_i hn; exact h3.resolve_left hn)
  rwa [List.length_map] at h2
theorem in_comp {fs M : List Ed} (hg : Gr n fs) (hM : MatchP M) (hs : ∀ e ∈ M, e ∈ fs) (v : Nat) : 2 * M.countP (fun e => decide ((rootsOf n fs).getD e.1.toNat 0 = (v : Int))) ≤ csz n fs v := by
  rw [List.countP_eq_length_filter, ← ends_length]
  unfold csz
  refine nodup_len (ends_nodup (hM.sublist List.filter_sublist) fun e he => (hg.inr e (hs e (List.mem_filter.1 he).1)).2.1) fun x hx => ?_
  obtain ⟨e, he, hx2⟩ := mem_ends hx
  have h1 := List.mem_filter.1 he
  have h2 := hg.inr e (hs e h1.1)
  have h3 : (rootsOf n fs).getD e.1.toNat 0 = (v : Int) := by simpa using h1.2
  have h4 : Cn fs ((e.1.toNat : Nat) : Int) ((e.2.toNat : Nat) : Int) := by
    rw [Int.toNat_of_nonneg h2.1, Int.toNat_of_nonneg (by omega)]
    exact .fwd (hs e h1.1) (.refl _)
  have h5 := (roots_iff hg (i := e.1.toNat) (j := e.2.toNat) (by omega) (by omega)).2 h4
  unfold partOf
  rcases hx2 with rfl | rfl
  · exact List.mem_map.2 ⟨e.1.toNat, List.mem_filter.2 ⟨List.mem_range.2 (by omega), decide_eq_true h3⟩, by show ((e.1.toNat : Nat) : Int) = e.1; omega⟩
  · exact List.mem_map.2 ⟨e.2.toNat, List.mem_filter.2 ⟨List.mem_range.2 (by omega), decide_eq_true (by rw [← h5]; exact h3)⟩, by show ((e.2.toNat : Nat) : Int) = e.2; omega⟩
/-- odd components without a set, less the set: at most the vertices that a matching leaves -/
theorem odd_bound (hg : Gr n es) (hS : SetP ((n : Int) - 1) s) {M : List Ed} (hM : MatchP M) (hs : ∀ e ∈ M, e ∈ es) : oddP n es s - s.length ≤ (n : Int) - 2 * M.length := by
  have hg2 := hg.wo s
  have h1 := odd_all hg hS
  have hsplit : M.length = (M.filter (touch s)).length + (M.filter fun e => !touch s e).length := by
    have := List.length_eq_countP_add_countP (touch s) (l := M)
    rw [List.countP_eq_length_filter, List.countP_eq_length_filter] at this
    rw [this]
    congr 2
    exact List.filter_congr fun e _ => by simp
  have h2 := touch_len (s := s) hM
  have hM2 : MatchP (M.filter fun e => !touch s e) := hM.sublist List.filter_sublist
  have hs2 : ∀ e ∈ M.filter (fun e => !touch s e), e ∈ woE s es := fun e he => List.mem_filter.2 ⟨hs e (List.mem_filter.1 he).1, (List.mem_filter.1 he).2⟩
  have h3 := sumN_count (fun e : Ed => (rootsOf n (woE s es)).getD e.1.toNat 0) n (M.filter fun e => !touch s e) (fun e he => by
    have h9 := hg2.inr e (hs2 e he)
    have h8 := roots_range hg2 (j := e.1.toNat) (by omega)
    omega)
  have h4 := sumN_le (n := n) (f := fun v => 2 * (M.filter fun e => !touch s e).countP (fun e => decide ((rootsOf n (woE s es)).getD e.1.toNat 0 = (v : Int))) + (if csz n (woE s es) v % 2 = 1 then 1 else 0)) (g := csz n (woE s es)) (fun v _ => by
    have h9 := in_comp hg2 hM2 hs2 v
    by_cases hc : csz n (woE s es) v % 2 = 1
    · rw [if_pos hc]; omega
    · rw [if_neg hc]; omega)
  rw [csz_sum hg2, sumN_add] at h4
  have h5 : sumN (fun v => 2 * (M.filter fun e => !touch s e).countP (fun e => decide ((rootsOf n (woE s es)).getD e.1.toNat 0 = (v : Int)))) n = 2 * (M.filter fun e => !touch s e).length := by
    rw [← h3]
    have : ∀ (f : Nat → Nat) (k : Nat), sumN (fun v => 2 * f v) k = 2 * sumN f k := fun f k => by
      induction k with
      | zero => rfl
      | succ k ih => simp only [sumN]; rw [ih]; omega
    exact this _ n
  rw [h5] at h4
  omega
end
/-- the deficiency -/
def defV (N : Int) (es : List Ed) : Int := if ValidG N es then N - 2 * (mm es : Int) else -1
theorem odd_def {N : Int} {es : List Ed} {s : List Int} (h : ValidG N es ∧ SetP (N - 1) s) : oddP N.toNat es s - s.length ≤ defV N es := by
  have h0 := h.1.2
  obtain ⟨n, rfl⟩ := Int.eq_ofNat_of_zero_le h0.1
  obtain ⟨M, h1, h2, h3⟩ := mm_wit es
  have hg := h.1.gr
  rw [Int.toNat_natCast] at hg ⊢
  have h4 := odd_bound hg h.2 h3 (fun e he => h1.subset he)
  rw [defV, if_pos h.1, ← h2]
  exact h4
theorem odd_par {N : Int} {es : List Ed} {s : List Int} (h : ValidG N es ∧ SetP (N - 1) s) : (oddP N.toNat es s + s.length - N) % 2 = 0 := by
  have h0 := h.1.2
  obtain ⟨n, rfl⟩ := Int.eq_ofNat_of_zero_le h0.1
  have hg := h.1.gr
  rw [Int.toNat_natCast] at hg ⊢
  exact odd_parity hg h.2
theorem odd_tmod {N : Int} {es : List Ed} {s : List Int} (h : ValidG N es ∧ SetP (N - 1) s) : (oddP N.toNat es s + s.length - N).tmod 2 = 0 := Int.tmod_eq_zero_of_dvd (Int.dvd_of_emod_eq_zero (odd_par h))
theorem mm_step {es : List Ed} (h : 0 < es.length) : mm es = max (mm (es.drop 1)) (1 + mm ((es.drop 1).filter fun f => !meets (es.getD 0 (0, 0)) f)) := by
  rcases es with _ | ⟨e, r⟩
  · simp at h
  · rw [mm_cons]; rfl
theorem oddP_bd {n : Nat} {es : List Ed} {s : List Int} : 0 ≤ oddP n es s ∧ oddP n es s ≤ n := by
  have h1 := oddTo_bd s (compsL n (woE s es)) (compsL n (woE s es)).length
  have h2 := compsL_len n (woE s es)
  unfold oddP oddL
  omega
theorem oddV_yes {N : Int} {es : List Ed} {s : List Int} (h : ¬ oddV N es s < 0) : ValidG N es ∧ SetP (N - 1) s := by
  by_cases hv : ValidG N es ∧ SetP (N - 1) s
  · exact hv
  · exact absurd (by rw [oddV, if_neg hv]; decide) h
/-! ### the reference's way: the vertices that are used -/
def mostV : List Ed → List Int → Nat
  | [], _ => 0
  | e :: r, u => if e.1 ∈ u ∨ e.2 ∈ u then mostV r u else max (mostV r u) (1 + mostV r (u ++ [e.1, e.2]))
theorem mostV_eq : ∀ (es : List Ed) (u : List Int), mostV es u = mm (es.filter fun e => !decide (e.1 ∈ u ∨ e.2 ∈ u))
  | [], u => by rw [mostV, List.filter_nil, mm_nil]
  | e :: r, u => by
    rw [mostV, List.filter_cons]
    by_cases h : e.1 ∈ u ∨ e.2 ∈ u
    · rw [if_pos h, if_neg (by rw [decide_eq_true h]; decide), mostV_eq r u]
    · rw [if_neg h, if_pos (by rw [decide_eq_false h]; rfl), mm_cons, mostV_eq r u, mostV_eq r (u ++ [e.1, e.2]), List.filter_filter]
      congr 3
      refine List.filter_congr fun f _ => ?_
      unfold meets
      rw [Bool.eq_iff_iff, Bool.and_eq_true, Bool.not_eq_true', Bool.not_eq_true', Bool.not_eq_true', decide_eq_false_iff_not, decide_eq_false_iff_not, decide_eq_false_iff_not]
      simp only [List.mem_append, List.mem_cons, List.not_mem_nil, or_false]
      constructor
      · intro h1; exact ⟨fun h2 => h1 (by rcases h2 with h2 | h2 | h2 | h2 <;> simp [h2]), fun h2 => h1 (by rcases h2 with h2 | h2 <;> simp [h2])⟩
      · rintro ⟨h1, h2⟩ h3
        rcases h3 with (h3 | h3 | h3) | (h3 | h3 | h3)
        · exact h2 (.inl h3)
        · exact h1 (.inl h3)
        · exact h1 (.inr (.inl h3))
        · exact h2 (.inr h3)
        · exact h1 (.inr (.inr (.inl h3)))
        · exact h1 (.inr (.inr (.inr h3)))
theorem mostV_nil (es : List Ed) : mostV (es.drop 0) [] = mm es := by
  rw [mostV_eq, List.drop_zero]
  congr 1
  exact List.filter_eq_self.2 fun e _ => by simp
theorem mostV_len (es : List Ed) (u : List Int) : mostV es u ≤ es.length := by
  rw [mostV_eq]; exact Nat.le_trans (mm_len _) (List.length_filter_le _ _)
theorem drop_next_ed {es : List Ed} {k : Nat} (h : k < es.length) : es.drop k = es.getD k (0, 0) :: es.drop (k + 1) := by
  rw [List.drop_eq_getElem_cons h, List.getD_eq_getElem?_getD, List.getElem?_eq_getElem h]; rfl
theorem mostV_no {es : List Ed} {us : List Int} {k : Nat} (hk : k < es.length) (h : (es.getD k (0, 0)).1 ∈ us ∨ (es.getD k (0, 0)).2 ∈ us) : mostV (es.drop k) us = mostV (es.drop (k + 1)) us := by
  rw [drop_next_ed hk, mostV, if_pos h]
theorem mostV_yes {es : List Ed} {us : List Int} {k : Nat} (hk : k < es.length) (h1 : ¬ (es.getD k (0, 0)).1 ∈ us) (h2 : ¬ (es.getD k (0, 0)).2 ∈ us) : mostV (es.drop k) us = max (mostV (es.drop (k + 1)) us) (1 + mostV (es.drop (k + 1)) (us ++ [(es.getD k (0, 0)).1, (es.getD k (0, 0)).2])) := by
  rw [drop_next_ed hk, mostV, if_neg (fun h => h.elim h1 h2)]
theorem defV_pos {N : Int} {es : List Ed} (h : ValidG N es) : 0 ≤ defV N es := by
  have h0 : 0 ≤ oddP N.toNat es [] - (([] : List Int).length : Int) := by
    have := (oddP_bd (n := N.toNat) (es := es) (s := [])).1
    simp only [List.length_nil]; omega
  exact Int.le_trans h0 (odd_def ⟨h, fun i hi => absurd hi (Nat.not_lt_zero _)⟩)
theorem defV_odd {N : Int} {es : List Ed} (h : ValidG N es) : oddV N es [] ≤ defV N es := by
  have h1 : ValidG N es ∧ SetP (N - 1) [] := ⟨h, fun i hi => absurd hi (Nat.not_lt_zero _)⟩
  have h2 := odd_def h1
  rw [oddV, if_pos h1]
  simp only [List.length_nil] at h2
  omega
end Go.Plain
